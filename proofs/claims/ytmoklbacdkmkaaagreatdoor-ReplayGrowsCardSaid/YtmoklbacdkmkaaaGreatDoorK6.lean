/- Contracts and plain facts that the closing text leans on (part 6). No condition of their own beyond those that each states. -/
import Derived.Test.YtmoklbacdkmkaaaGreatDoorK5
import Derived.LaidEql
import Derived.Stop.Asserts
import Derived.RowKitTokens
import Derived.Lib.IfaceEq
set_option maxRecDepth 100000
set_option linter.unusedVariables false
set_option linter.unusedSimpArgs false
namespace Go.Av
open Go Go.RowKit
theorem q7g {l m:List AV} (hl:l.length=m.length) (h:∀ (i:Nat) (x y:AV),l[i]? = some x→m[i]? = some y→Wk x y):Wk (.pp l) (.pp m):=fun G v hr=>by
 cases hr with
 |pp _ b off pub hp hlen hr=>
  refine .pp m b off pub hp (by omega) fun i y z hy hz=>?_
  have hi:i<l.length:=by have:=lt_of_getElem? hy;omega
  have hx:l[i]? = some l[i]:=List.getElem?_eq_getElem hi
  exact h i _ y hx hy G z (hr i _ z hx hz)
theorem qvk {E:Env} {fn:Func} {R:AV→List AObj→Prop} {s:AS} {d o ver:Nat} {T:TypeId} {cs xs:List AV} (hi:s.t d = .bx o ver 0) (ho:s.st[o]? = some (.cells ver T cs)) (hw:Wk (.pp cs) (.pp xs))
  (h:ARet E fn R ⟨Av.put s.t d (.pp xs),s.st.set o .dead,s.df⟩):ARet E fn R s:=
 ⟨fun B0 w0 G a w hL hI R2 hR=>by
  obtain⟨G1,h1,h2⟩:=hI.pub hi ho
  refine h.run B0 w0 G1 a w hL ⟨h2.agree,h2.defers,h2.size,fun j y hy=>?_⟩ R2 fun v G' r st' w' hG=>hR v G' r st' w' (h1.trans hG)
  have hj:=h2.tmps j y hy
  by_cases e:j=d
  ·subst e
   simp only [wm] at hj ⊢
   exact hw G1 y hj
  ·simp only at hj ⊢
   rw [yw _ _ _ _ e] at hj ⊢
   exact hj⟩
theorem q2e {E:Env} {fn:Func} {R:AV→List AObj→Prop} {s:AS} {d o ver o2 ver2 sz cap:Nat} {T T2:TypeId} {cs xs ys pad:List AV} (hi:s.t d = .bx o ver 0) (ho:s.st[o]? = some (.cells ver T cs)) (ho2:s.st[o2]? = some (.cells ver2 T2 (flat ys++pad))) (hne:o≠o2) (hw:∀ y∈ys,y.cells.length=sz) (hc:ys.length≤cap) (hl:cs.length=xs.length)
  (hx:∀ (i:Nat) (x y:AV),cs[i]? = some x→xs[i]? = some y→Wk x y∨(x = .os o2 ver2 0 ys.length cap∧y = .sl sz ys none)) (h:ARet E fn R ⟨Av.put s.t d (.pp xs),(s.st.set o .dead).set o2 .dead,s.df⟩):ARet E fn R s:=
 ⟨fun B0 w0 G a w hL hI R2 hR=>by
  obtain⟨G1,h1,h2⟩:=hI.pub hi ho
  have ho3:(s.st.set o .dead)[o2]? = some (.cells ver2 T2 (flat ys++pad)):=(List.getElem?_set_ne hne).trans ho2
  obtain⟨vs,hle,hA,hv,hp,hl2,hr⟩:=h2.agree.pubOb ho3
  refine h.run B0 w0 _ a w hL ⟨hA,h2.defers_mono hle,h2.size,fun j y hy=>?_⟩ R2 fun v G' r st' w' hG=>hR v G' r st' w' (h1.trans (hle.trans hG))
  have hj:=(h2.tmps j y hy).mono hle
  by_cases e:j=d
  ·subst e
   simp only [wm] at hj ⊢
   cases hj with
   |pp _ b off pub hp2 hlen hrel=>
    refine .pp xs b off pub hp2 (by omega) fun i z u hz hu=>?_
    have hi:i<cs.length:=by have:=lt_of_getElem? hz;omega
    have hg:cs[i]? = some cs[i]:=List.getElem?_eq_getElem hi
    have hrl:=hrel i _ u hg hu
    rcases hx i _ z hg hz with hw1 | ⟨e1,rfl⟩
    ·exact hw1 _ _ hrl
    ·rw [e1] at hrl
     cases hrl with
     |os _ _ _ _ bl _ hn hv' hb=>
      have hb:=hb hv
      subst hb
      refine .sl sz ys none _ 0 cap vs hp hw (by rw [← hl2];simp) (fun k x y g1 g2=>hr k x y (by rw [List.getElem?_append_left (lt_of_getElem? g1)];exact g1) (by simpa using g2)) (fun t ht=>by simp at ht) hc
  ·simp only at hj ⊢
   rw [yw _ _ _ _ e] at hj ⊢
   exact hj⟩
theorem q8y {E:Env} {fn:Func} {R:AV→List AObj→Prop} {s:AS} {d o ver sz cap:Nat} {T:TypeId} {ys pad:List AV} (hi:s.t d = .os o ver 0 ys.length cap) (ho:s.st[o]? = some (.cells ver T (flat ys++pad))) (hw:∀ y∈ys,y.cells.length=sz) (hc:ys.length≤cap)
  (h:ARet E fn R ⟨Av.put s.t d (.sl sz ys none),s.st.set o .dead,s.df⟩):ARet E fn R s:=
 ⟨fun B0 w0 G a w hL hI R2 hR=>by
  obtain⟨G1,h1,h2⟩:=hI.osPub (xs:=ys) (sz:=sz) hi ho rfl hc hw (by rw [List.length_append,z0 hw];omega) (by rw [List.drop_zero,← z0 hw,List.take_left])
  exact h.run B0 w0 G1 a w hL h2 R2 fun v G' r st' w' hG=>hR v G' r st' w' (h1.trans hG)⟩
def q2x (H:Nat→Option SR):SV→Option (Nat×Nat×List AV)
 | .tp k=>(match H k with
  |some (.own sz _ ys)=>some (k,sz,ys)
  | _=>none)
 | _=>none
def qpo (H:Nat→Option SR):List SV→Option (Nat×Nat×List AV)
 | []=>none
 |c::r=>(match q2x H c with
  |some x=>some x
  |none=>qpo H r)
theorem qu9 {H:Nat→Option SR} {j sz:Nat} {ys:List AV}:∀ {cs:List SV},qpo H cs=some (j,sz,ys)→∃ T,H j=some (.own sz T ys)
 | [],h=>by simp [qpo] at h
 |c::r,h=>by
  simp only [qpo] at h
  split at h
  ·rename_i x hx
   simp only [Option.some.injEq] at h
   subst h
   unfold q2x at hx
   split at hx
   ·split at hx
    ·rename_i hk
     simp only [Option.some.injEq,Prod.mk.injEq] at hx
     obtain⟨rfl,rfl,rfl⟩:=hx
     exact⟨_,hk⟩
    ·simp at hx
   ·simp at hx
  ·exact qu9 (cs:=r) h
def frzJ (H:Nat→Option SR) (j sz:Nat) (ys:List AV):List SV→Option (List AV)
 | []=>some []
 |c::r=>(match (match c with
   | .tp k=>bif Nat.beq k j then some (.sl sz ys none) else frz H (.tp k)
   |c=>frz H c),frzJ H j sz ys r with
  |some x,some l=>some (x::l)
  | _,_=>none)
theorem qyu {S:List AObj} {ρ : Nat→AV} {H:Nat→Option SR} (hS:SatF S ρ H) {j sz:Nat} {ys:List AV}:∀ (cs:List SV) (xs:List AV),frzJ H j sz ys cs=some xs→(SV.evs ρ cs).length=xs.length∧∀ (i:Nat) (x y:AV),(SV.evs ρ cs)[i]? = some x→xs[i]? = some y→Wk x y∨(x=tpAt (ρ j)∧y = .sl sz ys none)
 | [],xs,h=>by simp only [frzJ,Option.some.injEq] at h;subst h;exact⟨rfl,by simp [SV.evs]⟩
 |c::r,xs,h=>by
  simp only [frzJ] at h
  split at h
  ·rename_i x l h1 h2
   simp only [Option.some.injEq] at h
   subst h
   obtain⟨g1,g2⟩:=qyu hS r l h2
   refine⟨by simp [SV.evs,g1],fun i a b ha hb=>?_⟩
   cases i with
   |zero=>
    simp only [SV.evs,List.getElem?_cons_zero,Option.some.injEq] at ha hb
    subst ha
    subst hb
    split at h1
    ·rename_i k
     cases hkj:Nat.beq k j with
     |true=>
      rw [hkj] at h1
      simp only [cond_true,Option.some.injEq] at h1
      rw [Nat.eq_of_beq_eq_true hkj]
      exact .inr ⟨rfl,h1.symm⟩
     |false=>
      rw [hkj] at h1
      exact .inl (qh5 hS _ _ h1)
    ·exact .inl (qh5 hS _ _ h1)
   |succ i=>exact g2 i a b (by simpa [SV.evs] using ha) (by simpa using hb)
  ·simp at h
def pubK (k:Conf→Prop):List ResultVar→Conf→Prop
 | [],C=>k C
 | .tmp t::r,C=>(match lkS C.sl t with
  |some (.bx b 0)=>(match hpF C.hp b with
   |some (.cells _ cs)=>(match qpo (hpF C.hp) cs with
    |some (j,sz,ys)=>(match frzJ (hpF C.hp) j sz ys cs with
     |some xs=>pubK k r ⟨(t,.a (.pp xs))::C.sl,(j,none)::(b,none)::C.hp,C.nx⟩
     |none=>pubK k r C)
    |none=>(match frzs (hpF C.hp) cs with
     |some xs=>pubK k r ⟨(t,.a (.pp xs))::C.sl,(b,none)::C.hp,C.nx⟩
     |none=>pubK k r C))
   | _=>pubK k r C)
  |some (.tp b)=>(match hpF C.hp b with
   |some (.own sz _ ys)=>pubK k r ⟨(t,.a (.sl sz ys none))::C.sl,(b,none)::C.hp,C.nx⟩
   | _=>pubK k r C)
  | _=>pubK k r C)
 | _::r,C=>pubK k r C
theorem SatR.drop {S0:List AObj} {F:Nat→Prop} {C:Conf} {ρ t:Nat→AV} {S:List AObj} (h:SatR S0 F C ρ t S) {b o:Nat} {q:SR} (hb:hpF C.hp b=some q) (ho:∀ o',zk (ρ b)=some o'→o'=o) (hd:zk (ρ b)=some o∨S.set o .dead=S) :
  SatR S0 F ⟨C.sl,(b,none)::C.hp,C.nx⟩ ρ t (S.set o .dead):=by
 have hget:∀ k r,hpF ((b,none)::C.hp) k=some r→k≠b∧hpF C.hp k=some r:=fun k r hk=>by
  unfold hpF at hk ⊢
  simp only [lkS] at hk
  by_cases e:b=k
  ·subst e;simp at hk
  ·rw [jn e] at hk
   exact⟨fun h=>e h.symm,hk⟩
 rcases hd with hd|hd
 ·refine⟨h.sl,⟨fun k r hk=>?_,fun k k' r r' hne hk hk'=>h.hp.sep k k' r r' hne (hget k r hk).2 (hget k' r' hk').2⟩,fun k r hk=>h.own k r (hget k r hk).2,fun j hj hF=>?_,by simpa using h.len,h.wsl,fun k r hk=>h.whp k r (hget k r hk).2⟩
  ·obtain⟨hne,hk⟩:=hget k r hk
   refine SR.ok_of (f:=fun _=>true) (SR.all_mono (fun _ _=>rfl) r (h.whp k r hk).2) (fun _ _=>rfl) (h.hp.ok k r hk) fun j hj=>?_
   have:o≠j:=fun e=>h.hp.sep b k _ r (fun e=>hne e.symm) hb hk o hd (e▸hj)
   rw [List.getElem?_set_ne this]
  ·have:o≠j:=fun e=>by
    rcases h.own b _ hb o hd with g|g
    ·omega
    ·exact hF (e▸g)
   rw [List.getElem?_set_ne this]
   exact h.low j hj hF
 ·rw [hd]
  exact⟨h.sl,⟨fun k r hk=>h.hp.ok k r (hget k r hk).2,fun k k' r r' hne hk hk'=>h.hp.sep k k' r r' hne (hget k r hk).2 (hget k' r' hk').2⟩,fun k r hk=>h.own k r (hget k r hk).2,h.low,h.len,h.wsl,fun k r hk=>h.whp k r (hget k r hk).2⟩
theorem SatR.slot {S0:List AObj} {F:Nat→Prop} {C:Conf} {ρ t:Nat→AV} {S:List AObj} (h:SatR S0 F C ρ t S) (d:Nat) {y:AV}:SatR S0 F ⟨(d,.a y)::C.sl,C.hp,C.nx⟩ ρ (Av.put t d y) S:=by
 refine⟨fun x v hx=>?_,h.hp,h.own,h.low,h.len,fun x v hx=>?_,h.whp⟩
 ·simp only [lkS] at hx
  by_cases e:d=x
  ·subst e
   simp at hx
   subst hx
   exact wm _ _ _
  ·rw [jn e] at hx
   simp only [cond_false] at hx
   exact (yw _ _ _ _ (fun h=>e h.symm)).trans (h.sl x v hx)
 ·simp only [lkS] at hx
  by_cases e:d=x
  ·subst e
   simp at hx
   subst hx
   rfl
  ·rw [jn e] at hx
   exact h.wsl x v hx
theorem SatR.pub {S0:List AObj} {F:Nat→Prop} {C:Conf} {ρ t:Nat→AV} {S:List AObj} (h:SatR S0 F C ρ t S) {d b o:Nat} {T:TypeId} {cs:List SV} {xs:List AV} (hb:hpF C.hp b=some (.cells T cs)) (ho:zk (ρ b)=some o) :
  SatR S0 F ⟨(d,.a (.pp xs))::C.sl,(b,none)::C.hp,C.nx⟩ ρ (Av.put t d (.pp xs)) (S.set o .dead):=
 (h.drop hb (fun o' ho'=>by rw [ho] at ho';simpa using ho'.symm) (.inl ho)).slot d
theorem q74 {E:Env} {fn:Func} {R:AV→List AObj→Prop} {s:AS} {d:Nat} {x r:AV} (hi:s.t d=x) (hw:Wk x r) (h:ARet E fn R ⟨Av.put s.t d r,s.st,s.df⟩):ARet E fn R s:=
 ⟨fun B0 w0 G a w hL hI R2 hR=>h.run B0 w0 G a w hL ⟨hI.agree,hI.defers,hI.size,fun j y hy=>by
  have hj:=hI.tmps j y hy
  by_cases e:j=d
  ·subst e
   simp only [wm]
   rw [hi] at hj
   exact hw G y hj
  ·simp only
   rw [yw _ _ _ _ e]
   exact hj⟩ R2 hR⟩
theorem qam {E:Env} {fn:Func} {R:AV→List AObj→Prop} {S0:List AObj} {F:Nat→Prop} {ρ : Nat→AV} {k:Conf→Prop} (hk:∀ C t S,k C→SatR S0 F C ρ t S→ARet E fn R ⟨t,S,[]⟩):∀ {l:List ResultVar} {C:Conf} {t:Nat→AV} {S:List AObj},pubK k l C→SatR S0 F C ρ t S→ARet E fn R ⟨t,S,[]⟩
 | [],C,t,S,h,hR=>hk C t S h hR
 | .cell _ _::r,C,t,S,h,hR=>qam hk (l:=r) h hR
 | .tmp d::r,C,t,S,h,hR=>by
  simp only [pubK] at h
  split at h
  ·rename_i b hd
   split at h
   ·rename_i T cs hb
    obtain⟨o,v,e1,e2,e3⟩:=hR.hp.ok b _ hb
    have ht:=hR.sl d _ hd
    simp only [SV.ev,e1,bxAt] at ht
    split at h
    ·rename_i j sz ys hj
     split at h
     ·rename_i xs hx
      obtain⟨T2,hj⟩:=qu9 hj
      obtain⟨w1,w2⟩:=qyu hR.hp cs xs hx
      have hbj:b≠j:=fun e=>by subst e;rw [hb] at hj;simp at hj
      have hP:=hR.pub (d:=d) (xs:=xs) hb (by rw [e1];rfl)
      have hj2:hpF ((b,none)::C.hp) j=some (.own sz T2 ys):=by
       unfold hpF at hj ⊢
       simp only [lkS,jn hbj,cond_false]
       exact hj
      rcases hR.hp.ok j _ hj with⟨rfl,f1⟩ | ⟨o2,ver2,cap,pad,f1,f2,f3,f4,f5,f6⟩
      ·refine qvk ht e2 (q7g w1 fun i x y hx hy=>?_) (qam hk (l:=r) h ?_)
       ·rcases w2 i x y hx hy with g | ⟨g1,g2⟩
        ·exact g
        ·subst g1 g2
         unfold tpAt
         rw [f1.one]
         exact f1.wk sz
       ·have:=hP.drop (o:=S.length) hj2 (fun o' ho'=>by rw [f1.loc] at ho';simp at ho') (.inr (List.set_eq_of_length_le (by simp)))
        rwa [List.set_eq_of_length_le (by simp)] at this
      ·have hne:o≠o2:=fun e=>hR.hp.sep b j _ _ hbj hb hj o (by rw [e1];rfl) (by rw [f1,e];rfl)
       refine q2e ht e2 f2 hne f4 f5 w1 (fun i x y hx hy=>?_) (qam hk (l:=r) h (hP.drop hj2 (fun o' ho'=>?_) (.inl (by rw [f1];rfl))))
       ·rcases w2 i x y hx hy with g | ⟨g1,g2⟩
        ·exact .inl g
        ·exact .inr ⟨by rw [g1,f1];rfl,g2⟩
       ·rw [f1] at ho'
        simpa [zk] using ho'.symm
     ·exact qam hk (l:=r) h hR
    ·split at h
     ·rename_i xs hx
      obtain⟨w1,w2⟩:=qet hR.hp cs xs hx
      exact qvk ht e2 (q7g w1 w2) (qam hk (l:=r) h (hR.pub hb (by rw [e1];rfl)))
     ·exact qam hk (l:=r) h hR
   ·exact qam hk (l:=r) h hR
  ·rename_i b hd
   split at h
   ·rename_i sz T ys hb
    have ht:=hR.sl d _ hd
    have hok:=hR.hp.ok b _ hb
    simp only [SV.ev,qof hok] at ht
    rcases hok with⟨rfl,f1⟩ | ⟨o,ver,cap,pad,f1,f2,f3,f4,f5,f6⟩
    ·have hP:=hR.drop (o:=S.length) hb (fun o' ho'=>by rw [f1.loc] at ho';simp at ho') (.inr (List.set_eq_of_length_le (by simp)))
     rw [List.set_eq_of_length_le (by simp)] at hP
     exact q74 ht (f1.wk sz) (qam hk (l:=r) h (hP.slot d))
    ·rw [f1] at ht
     have hP:=hR.drop (o:=o) hb (fun o' ho'=>by rw [f1] at ho';simpa [zk] using ho'.symm) (.inl (by rw [f1];rfl))
     exact q8y ht f2 f4 f5 (qam hk (l:=r) h (hP.slot d))
   ·exact qam hk (l:=r) h hR
  ·exact qam hk (l:=r) h hR
def retP (P:Program) (fn:Func) (r0:AV) (e:Exit) (C:Conf):Prop:=
 match e with
 | .normal=>pubK (fun C=>ansW P fn C fun y=>Tl y r0) fn.results.toList C
 | .ret=>pubK (fun C=>ansW P fn C fun y=>Tl y r0) fn.results.toList C
 | _=>False
theorem qol {E:Env} {f:FuncId} {fn:Func} {c:Code} {args:List AV} {st:List AObj} {r0:AV} (vs:List SV) (hp:Pure r0) (hf:E.P.funcs[f]? = some fn) (hb:fn.body=some c) (hn:Nat.ble args.length fn.ntmps=true) (hv:∀ ρ,SV.evs ρ vs=args) (hc:okC ⟨ja 0 vs,[],0⟩=true)
  (h:∀ S0,numK 0 vs fun sl=>Sm E none fn.ntmps ⟨S0,fun _=>False,fun _=>zp,0,False⟩ c (retP E.P fn r0) ⟨sl,[],0⟩):qn E f args st fun r st'=>r=r0∧st'=st:=by
 simp only [qmm] at h
 refine q7 hp (qo hf hb (Nat.le_of_ble_eq_true hn) ?_)
 have hst:SatC ⟨st++[],fun _=>False,fun _=>zp,0,False⟩ ⟨ja 0 vs,[],0⟩ ⟨argT args,st++[],[]⟩:=by
  refine⟨fun _=>zp,⟨nofun,List.nodup_nil,fun _ _=>rfl,Nat.le_refl _,nofun⟩,⟨fun d v hd=>?_,⟨fun k r hk=>?_,fun k k' r r' _ hk=>?_⟩,fun k r hk=>?_,fun _ _ _=>rfl,Nat.le_refl _,fun d v hd=>?_,fun k r hk=>?_⟩⟩
  ·obtain⟨j,h1,h2⟩:=qc3 hd
   have:args[j]? = some (v.ev fun _=>zp):=by rw [← hv fun _=>zp,vz,List.getElem?_map,h2];rfl
   rw [h1,Nat.zero_add]
   simp only [argT,List.getD,this,Option.getD_some]
  ·simp [hpF,lkS] at hk
  ·simp [hpF,lkS] at hk
  ·simp [hpF,lkS] at hk
  ·simp only [okC,Bool.and_eq_true] at hc
   exact List.all_eq_true.1 hc.1 _ (vb hd)
  ·simp [hpF,lkS] at hk
 refine ((h (st++[])).run _ hst).mono fun e s' ⟨C',hq,hs'⟩=>?_
 obtain⟨t,S,df⟩:=s'
 obtain⟨ρ,hdf,hR⟩:=hs'
 simp only at hdf hR
 have fin:pubK (fun C=>ansW E.P fn C fun y=>Tl y r0) fn.results.toList C'→ARet E fn (fun r st2=>r=r0∧∃ ext,st2=st++ext) ⟨t,S,df⟩:=fun h=>by
  refine qhi hR (fun x hx=>hdf.dm x hx) hdf.nd fun S' hR'=>?_
  refine qam (fun C t S h hR'=>?_) h hR'
  obtain⟨y,h1,h2⟩:=qzm hR' h
  refine ql rfl (wn h1 h2.ok) ⟨rfl,?_⟩
  have hl:=hR'.len
  rw [List.append_nil] at hl
  exact qke hl fun k hk=>by
   have:=hR'.low k (by simpa using hk) (fun h=>h)
   rw [List.append_nil] at this
   exact this
 cases e with
 |normal=>exact fin hq
 |ret=>exact fin hq
 | _=>exact hq.elim
section
variable {E : Env} {N : Nat} {ops : Array Oper} {nx : Nat} {sl : List (Nat × SV)} {H : Nat → Option SR} {k : Ef → Prop} {d : Option Tmp} {T : TypeId} {p : String} {af : Array Edge}
theorem qnx {t e e':TypeId} {x y:Operand} {b sz i:Nat} {agg:Bool} {xs:List AV} {kd:IntKind} {v:SV} (hx:sval N sl x=some (.tp b)) (hH:H b=some (.own sz e xs)) (hy:sval N sl y=some v) (hv:qea v=some (kd,(i:Int))) (he:elT (E.P.underlying t)=some e') (ht:tyOf E.P e'=some (sz,agg)) (hi:i<xs.length)
  (h:k ⟨.bx b (0+i * sz),[b],[],nx⟩):∃ e,Loc E N ops ⟨d,.indexAddr t x y,T,p,af,none⟩ nx sl H e∧k e:=by
 refine⟨_,wd (v:=.bx b (0+i * sz)) fun df rd K rest ρ t' S hs hS hk=>?_,h⟩
 rcases hS.ok b _ ((kz b).trans hH) with⟨rfl,_⟩ | ⟨o,ver,cap,pad,e1,e2,_⟩
 ·simp at hi
 ·refine qgr (o:=o) (ver:=ver) (off:=0) (len:=xs.length) (cp:=cap+1) ((qt hs hx).trans (by simp [SV.ev,e1,tpAt,AV.one])) ((qt hs hy).trans (qbf hv ρ)) (qcc he) ht rfl hi ?_
  simpa only [SV.ev,e1,bxAt] using hk
theorem q4u {sz i j sz':Nat} {agg:Bool} {xs pad:List AV} {z r:AV} (hw:∀ x∈xs,x.cells.length=sz) (hz:xs[i]? = some z) (hr:jd sz' agg j z.cells=some r) (hj:j+sz'≤sz) (h1:agg=false→0<sz'):jd sz' agg (0+i * sz+j) (flat xs++pad)=some r:=by
 have hg:=qzq (pad:=pad) hw hz
 have hzl:=hw z (List.mem_of_getElem? hz)
 have hlen:i * sz+sz≤(flat xs++pad).length:=by
  have:=congrArg List.length hg
  simp only [List.length_take,List.length_drop] at this
  have h1:i * sz≤xs.length * sz:=Nat.mul_le_mul_right _ (by have:=lt_of_getElem? hz;omega)
  have h2:(flat xs++pad).length=xs.length * sz+pad.length:=by rw [List.length_append,z0 hw]
  omega
 unfold jd at hr ⊢
 rw [Nat.zero_add]
 cases agg with
 |true=>
  simp only [cond_true] at hr ⊢
  have b1:Nat.ble (i * sz+j+sz') (flat xs++pad).length=true:=Nat.ble_eq_true_of_le (by omega)
  have b2:Nat.ble (j+sz') z.cells.length=true:=Nat.ble_eq_true_of_le (by omega)
  rw [b2] at hr
  rw [b1]
  simp only [cond_true] at hr ⊢
  rw [← hr,← hg]
  congr 2
  apply List.ext_getElem?
  intro q
  simp only [List.getElem?_take,List.getElem?_drop]
  by_cases hq:q<sz'
  ·rw [if_pos hq,if_pos hq,if_pos (by omega)]
   congr 1
   omega
  ·rw [if_neg hq,if_neg hq]
 |false=>
  simp only [cond_false] at hr ⊢
  have:=h1 rfl
  rw [← hr,← hg,List.getElem?_take_of_lt (by omega),List.getElem?_drop]
theorem qux {t e:TypeId} {x:Operand} {b off sz i j sz':Nat} {agg:Bool} {xs:List AV} {z r:AV} (hx:sval N sl x=some (.bx b off)) (hH:H b=some (.own sz e xs)) (ht:tyOf E.P t=some (sz',agg)) (ho:off=0+i * sz+j) (hz:xs[i]? = some z) (hr:jd sz' agg j z.cells=some r) (hj:(Nat.ble (j+sz') sz && (agg ||Nat.blt 0 sz'))=true)
  (h:k ⟨nf r,[b],[],nx⟩):∃ e,Loc E N ops ⟨d,.load t x,T,p,af,none⟩ nx sl H e∧k e:=by
 simp only [Bool.and_eq_true,Bool.or_eq_true] at hj
 refine⟨_,wd (v:=nf r) fun df rd K rest ρ t' S hs hS hk=>?_,h⟩
 rcases hS.ok b _ ((kz b).trans hH) with⟨rfl,_⟩ | ⟨o,ver,cap,pad,e1,e2,e3,e4,_⟩
 ·simp at hz
 ·subst ho
  refine j9 (o:=o) (ver:=ver) (off:=0+i * sz+j) ((qt hs hx).trans (by simp only [SV.ev,e1,bxAt])) e2 ht (q4u e4 hz hr (Nat.le_of_ble_eq_true hj.1) fun e=>?_) (by rw [← qik ρ r];exact hk)
  rcases hj.2 with h|h
  ·rw [e] at h;simp at h
  ·exact vh h
theorem qo7 (A Z B us:List AV) (j:Nat) (h:j+us.length≤Z.length):zu (A++Z++B) (A.length+j) us=A++zu Z j us++B:=by
 unfold zu
 rw [List.append_assoc A Z B,List.take_length_add_append,List.take_append_of_le_length (by omega),Nat.add_assoc,List.drop_length_add_append,List.drop_append_of_le_length (by omega)]
 simp
theorem q1g {sz i j:Nat} {xs pad us:List AV} {z z':AV} (hw:∀ x∈xs,x.cells.length=sz) (hz:xs[i]? = some z) (hz':z'.cells=zu z.cells j us) (hj:j+us.length≤sz):zu (flat xs++pad) (0+i * sz+j) us=flat (xs.set i z')++pad∧z'.cells.length=sz:=by
 have hzl:=hw z (List.mem_of_getElem? hz)
 have hl:z'.cells.length=sz:=by rw [hz'];simp [zu];omega
 have hi:=lt_of_getElem? hz
 refine⟨?_,hl⟩
 rw [← qtx hw hl hi]
 have hg:=qzq (pad:=pad) hw hz
 have hA:((flat xs++pad).take (i * sz)).length=i * sz:=by
  have h1:i * sz≤xs.length * sz:=Nat.mul_le_mul_right _ (by omega)
  rw [List.length_take,List.length_append,z0 hw]
  omega
 generalize flat xs++pad=cs at hg hA
 have hcs:cs=cs.take (i * sz)++z.cells++(cs.drop (i * sz)).drop sz:=by
  rw [← hg,List.append_assoc,List.take_append_drop,List.take_append_drop]
 have e1:=qo7 (cs.take (i * sz)) z.cells ((cs.drop (i * sz)).drop sz) us j (by omega)
 have e2:=qo7 (cs.take (i * sz)) z.cells ((cs.drop (i * sz)).drop sz) z'.cells 0 (by omega)
 rw [hA,← hcs] at e1 e2
 have e3:zu z.cells 0 z'.cells=z'.cells:=by
  unfold zu
  rw [Nat.zero_add,List.drop_eq_nil_of_le (by omega)]
  simp
 rw [Nat.add_zero,e3] at e2
 rw [Nat.zero_add,e1,e2,hz']
theorem q2f {t e:TypeId} {x y:Operand} {b off sz i j sz':Nat} {agg:Bool} {xs:List AV} {z z' u:AV} {v:SV} (hx:sval N sl x=some (.bx b off)) (hy:sval N sl y=some v) (hv:∀ ρ,v.ev ρ = u) (hH:H b=some (.own sz e xs)) (ht:tyOf E.P t=some (sz',agg)) (ho:off=0+i * sz+j) (hz:xs[i]? = some z) (hz':z'.cells=zu z.cells j u.cells)
  (hj:(u.okc && Nat.beq u.cells.length sz' && kc u.cells && Nat.ble (j+sz') sz)=true) (h:k ⟨.a (.v undef),[b],[(b,some (.own sz e (xs.set i z')))],nx⟩):∃ e,Loc E N ops ⟨d,.store t x y,T,p,af,none⟩ nx sl H e∧k e:=by
 simp only [Bool.and_eq_true] at hj
 obtain⟨⟨⟨j1,j2⟩,j3⟩,j4⟩:=hj
 have j2:=Nat.eq_of_beq_eq_true j2
 have j4:=Nat.le_of_ble_eq_true j4
 refine⟨_,fun df rd K rest ρ t' S hs hS hk=>?_,h⟩
 have hok:=hS.ok b _ ((kz b).trans hH)
 rcases hok with⟨rfl,_⟩ | ⟨o,ver,cap,pad,e1,e2,e3,e4,e5,e6⟩
 ·simp at hz
 ·subst ho
  obtain⟨q1,q2⟩:=q1g (pad:=pad) e4 hz hz' (by omega)
  have hlt:=lt_of_getElem? hz
  refine qhc (o:=o) (ver:=ver) (off:=0+i * sz+j) (xs:=u.cells) ((qt hs hx).trans (by simp only [SV.ev,e1,bxAt])) ((qt hs hy).trans (hv ρ)) e2 ht j1 rfl j2 (by simpa [kc] using j3) (by
   have h1:i * sz+sz≤xs.length * sz:=by rw [← Nat.succ_mul];exact Nat.mul_le_mul_right _ hlt
   rw [List.length_append,z0 e4]
   omega) ?_
  rw [q1]
  have hw':∀ y∈xs.set i z',y.cells.length=sz:=fun y hy=>by
   rcases List.mem_or_eq_of_mem_set hy with h|rfl
   ·exact e4 y h
   ·exact q2
  have key:∀ k r,chF [(b,some (.own sz e (xs.set i z')))] (resF [b] H) k=some r→k=b∧r = .own sz e (xs.set i z'):=fun k r hk=>by
   simp only [chF,lkS] at hk
   by_cases e:b=k
   ·subst e
    have:Nat.beq b b=true:=by simp
    rw [this] at hk
    simp only [cond_true,Option.some.injEq] at hk
    exact⟨rfl,hk.symm⟩
   ·rw [jn e] at hk
    have:=(vq hk).1
    simp only [memN,List.any_cons,List.any_nil,Bool.or_false] at this
    exact absurd (Nat.eq_of_beq_eq_true this).symm e
  refine hk ρ _ ⟨fun _ _=>rfl,⟨fun k r hk=>?_,fun k k' r r' hne g1 g2=>?_⟩,by simp,fun j hj hne=>?_,fun k r hk o' ho'=>?_⟩
  ·obtain⟨rfl,rfl⟩:=key k r hk
   refine .inr ⟨o,ver,cap,pad,by rw [e1,List.length_set],qaf e2,?_,hw',by rw [List.length_set];exact e5,e6⟩
   rw [List.length_append,z0 hw',List.length_set,← z0 e4,← List.length_append]
   exact e3
  ·exact absurd ((key k r g1).1.trans (key k' r' g2).1.symm) hne
  ·have:=hne b _ ((kz b).trans hH)
   rw [e1] at this
   exact List.getElem?_set_ne (fun e=>this (by rw [e];rfl))
  ·obtain⟨rfl,rfl⟩:=key k r hk
   exact .inr ⟨k,_,(kz k).trans hH,ho'⟩
structure OwnR (sz:Nat) (T:TypeId) (ys:List AV) (st:List AObj) (c r:AV) (st':List AObj):Prop where
 ok:OwnS st' sz T ys r
 len:st.length≤st'.length
 same:∀ j,j<st.length→zk c≠some j→st'[j]? = st[j]?
 loc:∀ o,zk r=some o→st.length≤o∨zk c=some o
theorem qq2 {S:List AObj} {sz:Nat} {T:TypeId} {xs:List AV} {c:AV} (h:OwnS S sz T xs c):tpAt c=c:=qof h
theorem qn8 {f:FuncId} {sz:Nat} {T0:TypeId} {xs ys:List AV} (args:List AV) (hc:okC ⟨ja 0 (.tp 0::args.map .a),[(0,some (.own sz T0 xs))],1⟩=true)
  (h:∀ st c,OwnS st sz T0 xs c→qn E f (c::args) st fun r st'=>OwnR sz T0 ys st c r st'):ku E f (.tp 0::args.map .a) 1 (hpF [(0,some (.own sz T0 xs))]) ⟨.tp 1,vl [(0,some (.own sz T0 xs))],[(1,some (.own sz T0 ys))]++vw [(0,some (.own sz T0 xs))],2⟩:=fun ρ S hS=>by
 simp only [wp] at hS
 have hok:OwnS S sz T0 xs (ρ 0):=hS.ok 0 _ rfl
 have e:SV.evs ρ (.tp 0::args.map .a) = ρ 0::args:=by
  simp only [SV.evs,SV.ev,qq2 hok,vz,List.map_map]
  congr 1
  conv=>rhs;rw [← List.map_id args]
  exact List.map_congr_left fun x _=>rfl
 rw [e]
 refine (h S (ρ 0) hok).mono fun r S' hr=>⟨upd ρ 1 r,?_,?_⟩
 ·simp only [SV.ev,ki,qq2 hr.ok]
 ·have key:∀ k q,hpF [(1,some (.own sz T0 ys))] k=some q→k=1∧q = .own sz T0 ys:=fun k q hk=>by
   have:=w8 hk
   simp only [lkS] at this
   cases hb:Nat.beq 1 k with
   |true=>
    rw [hb] at this
    simp only [cond_true,Option.some.injEq] at this
    exact⟨(Nat.eq_of_beq_eq_true hb).symm,this.symm⟩
   |false=>rw [hb] at this;simp at this
  refine⟨fun k hk=>x3 _ _ (by simp only at hk;omega),?_,hr.len,fun j hj hn=>?_,fun k q hk o ho=>?_⟩
  ·simp only [wp,qfh]
   refine⟨fun k q hk=>?_,fun k k' q q' hne h1 h2=>absurd ((key k q h1).1.trans (key k' q' h2).1.symm) hne⟩
   obtain⟨rfl,rfl⟩:=key k q hk
   rw [ki]
   exact hr.ok
  ·simp only [wp] at hn
   exact hr.same j hj (hn 0 _ rfl)
  ·simp only [wp,qfh] at hk ⊢
   obtain⟨rfl,rfl⟩:=key k q hk
   rw [ki] at ho
   rcases hr.loc o ho with h|h
   ·exact .inl h
   ·exact .inr ⟨0,_,rfl,h⟩
theorem qxs {f:FuncId} {sz:Nat} {T0:TypeId} {ys:List AV} {nx:Nat} {H:Nat→Option SR} (args:List AV) (vs:List SV) (hv:∀ ρ,SV.evs ρ vs=args)
  (h:∀ st,qn E f args st fun r st'=>OwnR sz T0 ys st (.v undef) r st'):ku E f vs nx H ⟨.tp nx,[],[(nx,some (.own sz T0 ys))],nx+1⟩:=fun ρ S hS=>by
 rw [hv]
 refine (h S).mono fun r S' hr=>⟨upd ρ nx r,?_,?_⟩
 ·simp only [SV.ev,ki,qq2 hr.ok]
 ·have key:∀ k q,chF [(nx,some (SR.own sz T0 ys))] (resF [] H) k=some q→k=nx∧q = .own sz T0 ys:=fun k q hk=>by
   simp only [chF,lkS] at hk
   cases hb:Nat.beq nx k with
   |true=>
    rw [hb] at hk
    simp only [cond_true,Option.some.injEq] at hk
    exact⟨(Nat.eq_of_beq_eq_true hb).symm,hk.symm⟩
   |false=>
    rw [hb] at hk
    simp [resF,memN] at hk
  refine⟨fun k hk=>x3 _ _ (by simp only at hk;omega),⟨fun k q hk=>?_,fun k k' q q' hne h1 h2=>absurd ((key k q h1).1.trans (key k' q' h2).1.symm) hne⟩,hr.len,fun j hj _=>hr.same j hj (by simp [zk]),fun k q hk o ho=>?_⟩
  ·obtain⟨rfl,rfl⟩:=key k q hk
   rw [ki]
   exact hr.ok
  ·obtain⟨rfl,rfl⟩:=key k q hk
   rw [ki] at ho
   rcases hr.loc o ho with h|h
   ·exact .inl h
   ·simp [zk] at h
end
end Go.Av
namespace Go.Av
open Go Go.RowKit
def rowP (e:TypeId) (l:List UInt8):AObj→AV→Prop:=fun x c=>x = .row 0 e (l.map Uv)∧∃ o cap,c = .os o 0 0 l.length (cap+1)
section
variable {E : Env} {rd : Option Nat} {N : Nat} {ops : Array Oper} {K : AS → Prop} {s : AS} {rest : List Oper} {d : Option Tmp} {T : TypeId} {p : String} {af : Array Edge}
theorem qs9 {x:Operand} {t t' e:TypeId} {l:List UInt8} {u:TypeDesc} (hx:qf N s x=Sv l) (hs:E.P.underlying t=some u) (hd:E.P.underlying t'=some (.slice e)) (he:E.P.underlying e=some (.int .u8))
  (h:∀ cap,l.length≤cap→AOps E rd N ops rest K (AS.put ⟨s.t,s.st++[.row 0 e (l.map Uv)],s.df⟩ d (.os s.st.length 0 0 l.length cap))):AOps E rd N ops (⟨d,.convert t t' x,T,p,af,none⟩::rest) K s:=by
 refine qx rfl (qw nofun fun B0 w0 G a w _ hI=>?_)
 have hv:=hI.evalv hx
 have hrun:=Lib.run_convert_string_bytes (P:=E.P) w t t' e ⟨l.toArray⟩ hs hd he
 have hsz:(⟨l.toArray⟩:ByteArray).size=l.length:=by simp [ByteArray.size]
 have hnew:(G.new 0 w.heap.size 0 false).ob s.st.length=⟨0,w.heap.size,0,false⟩:=by simp [Gh.new,hI.agree.n]
 rw [hsz] at hrun
 refine⟨.slice (some ⟨w.heap.size,0,none⟩) l.length (grownCap w l.length 0 e),_,G.new 0 w.heap.size 0 false,_,_,?_,G.le_new _ _ _ _,hI.agree.newAt 0 false (.row 0 e (l.map Uv)) (quy w e ⟨l.toArray⟩) (by rw [Lib.bytesWorld_size];omega) ?_,?_,h (grownCap w l.length 0 e) (grownCap_ge _ _ _ _)⟩
 ·generalize a.eval = ρ at hv
  simp only [execOp,hv]
  rw [Sem.run_bind,hrun]
  rfl
 ·refine⟨by rw [hnew],by rw [hnew],by rw [hnew];exact hI.agree.hB,?_,Lib.bytesCells w e ⟨l.toArray⟩,_,by rw [hnew];exact Lib.bytesWorld_at_new w e _,Nat.le_refl _,by simp [Lib.bytesCells],fun i x y h1 h2=>?_⟩
  ·rw [hnew]
   cases hp:G.pub w.heap.size with
   |none=>exact hp
   |some vs=>exact absurd (hI.agree.pub_lt hp) (Nat.lt_irrefl _)
  ·have hi:i<l.length:=by have:=lt_of_getElem? h1;simpa using this
   simp only [Lib.bytesCells] at h2
   rw [Array.getElem?_append] at h2
   simp [hi] at h1 h2
   subst h1;subst h2
   exact .v _
 ·exact .os _ _ _ _ _ _ (by rw [← hI.agree.n];simp [Gh.new]) (by rw [hnew];exact Nat.le_refl _) (fun _=>by rw [hnew])
end
section
variable {E : Env} {N : Nat} {ops : Array Oper} {nx : Nat} {sl : List (Nat × SV)} {H : Nat → Option SR} {k : Ef → Prop} {d : Option Tmp} {T : TypeId} {p : String} {af : Array Edge}
theorem qys {t t' e:TypeId} {x:Operand} {l:List UInt8} {u:TypeDesc} (hx:sval N sl x=some (.s l)) (hl:0<l.length) (hs:E.P.underlying t=some u) (hd:E.P.underlying t'=some (.slice e)) (he:E.P.underlying e=some (.int .u8))
  (h:k ⟨.tp nx,[],[(nx,some (.obj (rowP e l)))],nx+1⟩):∃ e,Loc E N ops ⟨d,.convert t t' x,T,p,af,none⟩ nx sl H e∧k e:=by
 refine⟨_,qjo (fun k r hk=>by rw [qh8] at hk;simp at hk) fun df rd K rest ρ t1 S ho _ hk=>qs9 (qt ho hx) hs hd he fun cap hc=>?_,h⟩
 obtain⟨cap,rfl⟩:∃ c,cap=c+1:=⟨cap - 1,by omega⟩
 have:=hk (.os S.length 0 0 l.length (cap+1)) [.row 0 e (l.map Uv)] ⟨S.length,_,rfl,wu,by simp,rfl,_,_,rfl⟩ (fun o ho=>by simp only [zk,Option.some.injEq] at ho;omega)
 simpa [SV.ev,ki,tpAt,AV.one] using this
theorem qzj {t t' e e':TypeId} {x:Operand} {b:Nat} {l:List UInt8} (hx:sval N sl x=some (.tp b)) (hH:H b=some (.obj (rowP e' l))) (hs:E.P.underlying t=some (.slice e)) (he:E.P.underlying e=some (.int .u8)) (hd:E.P.underlying t'=some .string)
  (h:k ⟨.s l,[b],[],nx⟩):∃ e,Loc E N ops ⟨d,.convert t t' x,T,p,af,none⟩ nx sl H e∧k e:=by
 refine⟨_,wd (v:=.s l) fun df rd K rest ρ t1 S ho hS hk=>?_,h⟩
 obtain⟨o,x',h1,h2,_,rfl,o',cap,e1⟩:=hS.ok b _ ((kz b).trans hH)
 rw [e1] at h1
 simp only [zk,Option.some.injEq] at h1
 subst h1
 exact qwd (o:=o') (ver:=0) (len:=l.length) (cp:=cap+1) ((qt ho hx).trans (by simp [SV.ev,e1,tpAt,AV.one])) rfl h2 hs he hd hk
theorem q7v {t:TypeId} {ts:Array TypeId} {x:Operand} {b:Nat} {e:TypeId} {l:List UInt8} (ht:ts[0]? = some t) (hx:sval N sl x=some (.tp b)) (hH:H b=some (.obj (rowP e l))) (hu:(∃ e,E.P.underlying t=some (.slice e)))
  (h:k ⟨.i l.length,[b],[],nx⟩):∃ e,Loc E N ops ⟨d,.call ⟨.builtin .len,#[x],ts⟩,T,p,af,none⟩ nx sl H e∧k e:=by
 refine⟨_,wd (v:=.i l.length) fun df rd K rest ρ t1 S ho hS hk=>?_,h⟩
 obtain⟨o,x',h1,h2,_,rfl,o',cap,e1⟩:=hS.ok b _ ((kz b).trans hH)
 obtain⟨e2,hu⟩:=hu
 exact zl (v:=.os o' 0 0 l.length (cap+1)) ((qt ho hx).trans (by simp [SV.ev,e1,tpAt,AV.one])) rfl ht hu hk
theorem quj {t e e':TypeId} {x y:Operand} {b i:Nat} {agg:Bool} {l:List UInt8} {kd:IntKind} {v:SV} (hx:sval N sl x=some (.tp b)) (hH:H b=some (.obj (rowP e l))) (hy:sval N sl y=some v) (hv:qea v=some (kd,(i:Int))) (he:elT (E.P.underlying t)=some e') (ht:tyOf E.P e'=some (1,agg)) (hi:i<l.length)
  (h:k ⟨.bx b i,[b],[],nx⟩):∃ e,Loc E N ops ⟨d,.indexAddr t x y,T,p,af,none⟩ nx sl H e∧k e:=by
 refine⟨_,wd (v:=.bx b i) fun df rd K rest ρ t' S hs hS hk=>?_,h⟩
 obtain⟨o,x',h1,h2,_,rfl,o',cap,e1⟩:=hS.ok b _ ((kz b).trans hH)
 refine qgr (o:=o') (ver:=0) (off:=0) (len:=l.length) (cp:=cap+1) (n:=i) ((qt hs hx).trans (by simp [SV.ev,e1,tpAt,AV.one])) ((qt hs hy).trans (qbf hv ρ)) (qcc he) ht rfl hi ?_
 have:0+i * 1=i:=by omega
 rw [this]
 simpa only [SV.ev,e1,bxAt] using hk
theorem qug {t e:TypeId} {x:Operand} {b i:Nat} {l:List UInt8} {z:UInt8} (hx:sval N sl x=some (.bx b i)) (hH:H b=some (.obj (rowP e l))) (ht:tyOf E.P t=some (1,false)) (hz:l[i]? = some z)
  (h:k ⟨.a (Uv z),[b],[],nx⟩):∃ e,Loc E N ops ⟨d,.load t x,T,p,af,none⟩ nx sl H e∧k e:=by
 refine⟨_,wd (v:=.a (Uv z)) fun df rd K rest ρ t' S hs hS hk=>?_,h⟩
 obtain⟨o,x',h1,h2,_,rfl,o',cap,e1⟩:=hS.ok b _ ((kz b).trans hH)
 rw [e1] at h1
 simp only [zk,Option.some.injEq] at h1
 subst h1
 exact qs2 (o:=o') (ver:=0) (off:=i) ((qt hs hx).trans (by simp only [SV.ev,e1,bxAt])) h2 ht (by rw [List.getElem?_map,hz];rfl) hk
theorem qsk {t e:TypeId} {x y:Operand} {b i:Nat} {l:List UInt8} {z:UInt8} {v:SV} (hx:sval N sl x=some (.bx b i)) (hy:sval N sl y=some v) (hv:∀ ρ,v.ev ρ = Uv z) (hH:H b=some (.obj (rowP e l))) (ht:tyOf E.P t=some (1,false)) (hi:i<l.length)
  (h:k ⟨.a (.v undef),[b],[(b,some (.obj (rowP e (l.set i z))))],nx⟩):∃ e,Loc E N ops ⟨d,.store t x y,T,p,af,none⟩ nx sl H e∧k e:=by
 refine⟨_,fun df rd K rest ρ t' S hs hS hk=>?_,h⟩
 obtain⟨o,x',h1,h2,_,rfl,o',cap,e1⟩:=hS.ok b _ ((kz b).trans hH)
 rw [e1] at h1
 simp only [zk,Option.some.injEq] at h1
 subst h1
 refine qro (o:=o') (ver:=0) (off:=i) (v:=.int .u8 (z.toNat:Nat)) ((qt hs hx).trans (by simp only [SV.ev,e1,bxAt])) ((qt hs hy).trans (hv ρ)) h2 ht rfl (by simpa using hi) ?_
 have key:∀ k r,chF [(b,some (.obj (rowP e (l.set i z))))] (resF [b] H) k=some r→k=b∧r = .obj (rowP e (l.set i z)):=fun k r hk=>by
  simp only [chF,lkS] at hk
  by_cases e:b=k
  ·subst e
   have:Nat.beq b b=true:=by simp
   rw [this] at hk
   simp only [cond_true,Option.some.injEq] at hk
   exact⟨rfl,hk.symm⟩
  ·rw [jn e] at hk
   have:=(vq hk).1
   simp only [memN,List.any_cons,List.any_nil,Bool.or_false] at this
   exact absurd (Nat.eq_of_beq_eq_true this).symm e
 refine hk ρ _ ⟨fun _ _=>rfl,⟨fun k r hk=>?_,fun k k' r r' hne g1 g2=>?_⟩,by simp,fun j hj hne=>?_,fun k r hk o' ho'=>?_⟩
 ·obtain⟨rfl,rfl⟩:=key k r hk
  refine⟨o',_,by rw [e1];rfl,qaf h2,by simp,?_,o',cap,by rw [e1,List.length_set]⟩
  rw [List.map_set]
 ·exact absurd ((key k r g1).1.trans (key k' r' g2).1.symm) hne
 ·have:=hne b _ ((kz b).trans hH)
  rw [e1] at this
  exact List.getElem?_set_ne (fun e=>this (by rw [e];rfl))
 ·obtain⟨rfl,rfl⟩:=key k r hk
  exact .inr ⟨k,_,(kz k).trans hH,ho'⟩
theorem qyy {t t':TypeId} {x y:Operand} {v u:SV} {a b:UInt8} (hx:sval N sl x=some v) (hv:∀ ρ,v.ev ρ = Uv a) (hy:sval N sl y=some u) (hu:∀ ρ,u.ev ρ = Uv b) (h:k ⟨.a (Uv (a ^^^ b)),[],[],nx⟩) :
  ∃ e,Loc E N ops ⟨d,.binOp .xor t x y t',T,p,af,none⟩ nx sl H e∧k e:=
 ⟨_,z7 (v:=.a (Uv (a ^^^ b))) fun df rd K rest ρ t1 S hs hk=>quk ((qt hs hx).trans (hv ρ)) ((qt hs hy).trans (hu ρ)) (xor8 a b) hk,h⟩
theorem qye {f:FuncId} {vs:List SV} {b:Nat} {T:TypeId} {cs cs':List SV} {r0:AV} (hH:H b=some (.cells T cs))
  (hc:∀ (ρ : Nat→AV) (S:List AObj) (o:Nat),ρ b = .bx o 0 0→S[o]? = some (.cells 0 T (SV.evs ρ cs))→qn E f (SV.evs ρ vs) S fun r S'=>r=r0∧S'=S.set o (.cells 0 T (SV.evs ρ cs'))) :
  ku E f vs nx H ⟨nf r0,[b],[(b,some (.cells T cs'))],nx⟩:=fun ρ S hS=>by
 obtain⟨o,ver,h1,h2,rfl⟩:=hS.ok b _ ((kz b).trans hH)
 refine (hc ρ S o h1 h2).mono ?_
 rintro r S' ⟨rfl,rfl⟩
 have key:∀ k r,chF [(b,some (.cells T cs'))] (resF [b] H) k=some r→k=b∧r = .cells T cs':=fun k r hk=>by
  simp only [chF,lkS] at hk
  by_cases e:b=k
  ·subst e
   have:Nat.beq b b=true:=by simp
   rw [this] at hk
   simp only [cond_true,Option.some.injEq] at hk
   exact⟨rfl,hk.symm⟩
  ·rw [jn e] at hk
   have:=(vq hk).1
   simp only [memN,List.any_cons,List.any_nil,Bool.or_false] at this
   exact absurd (Nat.eq_of_beq_eq_true this).symm e
 refine⟨ρ,(qik ρ _).symm,fun _ _=>rfl,⟨fun k r hk=>?_,fun k k' r r' hne g1 g2=>?_⟩,by simp,fun j hj hne=>?_,fun k r hk o' ho'=>?_⟩
 ·obtain⟨rfl,rfl⟩:=key k r hk
  exact⟨o,0,h1,qaf h2,rfl⟩
 ·exact absurd ((key k r g1).1.trans (key k' r' g2).1.symm) hne
 ·have:=hne b _ ((kz b).trans hH)
  rw [h1] at this
  exact List.getElem?_set_ne (fun e=>this (by rw [e];rfl))
 ·obtain⟨rfl,rfl⟩:=key k r hk
  exact .inr ⟨k,_,(kz k).trans hH,ho'⟩
end
end Go.Av
namespace Go.Pl
open Go Go.Proofs
structure j6 where
 kind:Int
 raw:Bytes
 fields:List Fld
structure PSt where
 lines:List Bytes
 frm:Int
 full:Bool
 items:List j6
 block:List Bytes
 fields:List Fld
 records:Int
def jl (p:PSt):Option (Int×Int)×PSt:=
 if p.lines=[] then (none,p)
 else if (jm p.lines).2≠0 then (some (p.frm,(jm p.lines).2),p)
 else if p.full=true then (some (p.frm,11),p)
 else (none,{ p with lines:=[],fields:=p.fields++[(jm p.lines).1] })
end Go.Pl
namespace Go.Proofs.YtmoklbacdkmkaaaGreatDoor
open Go Go.Av Go.RowKit Go.Proofs Go.Pl
@[reducible] def yy (x : j6) : AV := .ag [Iv x.kind, Sv x.raw, kv x.fields]
@[reducible] def qce (xs : List j6) : AV := .sl 3 (xs.map yy) none
@[reducible] def parC (c1 c2 c3 c4 : AV) (p : PSt) : List AV := [c1, Iv p.frm, Bv p.full, c2, c3, c4, Iv p.records]
@[reducible] def parO (c1 c2 c3 c4 : AV) (p : PSt) : AObj := .cells 0 186 (parC c1 c2 c3 c4 p)
structure ParS (b o:Nat) (p:PSt) (st:List AObj) (c1 c2 c3 c4:AV):Prop where
 lt:o<b
 le:b≤st.length
 ob:st[o]? = some (parO c1 c2 c3 c4 p)
 h1:TipC b st 1 9 (p.lines.map fun x=>Sv x) c1
 h2:TipC b st 3 137 (p.items.map yy) c2
 h3:TipC b st 1 9 (p.block.map fun x=>Sv x) c3
 h4:TipC b st 2 156 (p.fields.map fldA) c4
 ne:∀ t xs ys,c1 = .sl 1 xs (some t)→c3 = .sl 1 ys (some t)→False
structure Keep (b o:Nat) (st st':List AObj):Prop where
 len:st.length≤st'.length
 same:∀ k,k≠o→k<st.length→(k<b∨qig st[k]?)→st'[k]? = st[k]?
theorem Keep.trans {b o:Nat} {st st' st'':List AObj} (h:Keep b o st st') (k:Keep b o st' st''):Keep b o st st'':=⟨Nat.le_trans h.len k.len,fun i hne hi hc=>by
 have e:=h.same i hne hi hc
 refine (k.same i hne (Nat.lt_of_lt_of_le hi h.len) ?_).trans e
 rw [e]
 exact hc⟩
def qdq (a n:Int):AV:=.ifc 101 (.pp [Iv a,.ifc 76 (Iv n)])
def errP:Option (Int×Int)→AV
 |none=>.v .nilIface
 |some (a,n)=>qdq a n
theorem qjd (a n:Int):Pure (qdq a n):=qb1 (qrq fun x hx=>by
 simp only [List.mem_cons,List.not_mem_nil,or_false] at hx
 rcases hx with rfl|rfl
 ·exact q6 _
 ·exact qb1 (q6 _))
theorem qj6 (a n:Int) (st:List AObj):qn E 167 [Iv a,.ifc 76 (Iv n)] st fun r st'=>r=qdq a n∧st'=st:=by
 refine q7 (qjd a n) (qo Tryz.func167 rfl (Nat.le_of_ble_eq_true rfl) ?_)
 repeat' (first|(apply qi3;(iterate 3 exact rfl))|apply qk|apply qc|apply qd|apply qj|apply qe|(apply za;exact rfl;exact rfl)|(apply jr;(iterate 3 exact rfl))|apply qr)
 exact ql rfl (zb rfl) ⟨rfl,_,rfl⟩
theorem q08 (ls:List Bytes) (t:Option Nat) (st:List AObj) (hB:LsB ls) (h:(jm ls).2=0):qn E 216 [.sl 1 (ls.map fun x=>Sv x) t] st fun r st'=>r = .tu [fldA (jm ls).1,.v .nilIface]∧st'=st:=by
 have:=qlo ls st hB
 unfold qel at this
 rw [h] at this
 exact qna (qkm _ _ _) this
theorem q0i (ls:List Bytes) (t:Option Nat) (st:List AObj) (hB:LsB ls) (h:(jm ls).2≠0):qn E 216 [.sl 1 (ls.map fun x=>Sv x) t] st fun r st'=>r = .tu [fldA (jm ls).1,.ifc 76 (Iv (jm ls).2)]∧st'=st:=by
 have:=qlo ls st hB
 unfold qel at this
 rw [qjt h] at this
 exact qna (qkm _ _ _) this
structure PB (n:Nat) (p:PSt):Prop where
 small:n<900000
 lines:p.lines.length≤n
 linesV:∀ s∈p.lines,s.length<1000000
 items:p.items.length≤n
 block:p.block.length≤n
 blockV:∀ s∈p.block,s.length<1000000
 fields:p.fields.length≤n
 rec0:0≤p.records
 rec1:p.records≤n
theorem PB.ls {n:Nat} {p:PSt} (h:PB n p):LsB p.lines:=⟨by have:=h.lines;have:=h.small;omega,h.linesV⟩
theorem ParS.pre {b o:Nat} {p:PSt} {st l:List AObj} {c1 c2 c3 c4:AV} (P:ParS b o p st c1 c2 c3 c4):ParS b o p (st++l) c1 c2 c3 c4:=
 ⟨P.lt,by have:=P.le;simp;omega,qba P.ob,qhx P.h1,qhx P.h2,qhx P.h3,qhx P.h4,P.ne⟩
end Go.Proofs.YtmoklbacdkmkaaaGreatDoor
namespace Go.Pl
open Go Go.Proofs
def xz (p:PSt):PSt:=
 if p.block=[] then { p with block:=[],fields:=[] }
 else { p with items:=p.items++[⟨if p.fields=[] then 2 else 3,zj p.block,p.fields⟩],records:=if p.fields=[] then p.records else p.records+1,block:=[],fields:=[] }
def endP (p:PSt):Option (Int×Int)×PSt:=match (jl p).1 with
 |some e=>(some e,p)
 |none=>(none,xz (jl p).2)
theorem ql3:∀ (x:Bytes) (r:List Bytes),Lib.join (x::r) [10]++[10]=zj (x::r)
 |x,[]=>by rw [Lib.join_one];simp [zj]
 |x,y::r=>by
  have ih:=ql3 y r
  rw [Lib.join_cons] at ih ⊢
  unfold Lib.joinTail at ih ⊢
  simp only [List.map_cons,List.flatten_cons,zj,List.flatMap_cons] at ih ⊢
  rw [← ih]
  simp
theorem qkn:∀ (r:List Bytes),(∀ s∈r,s.length<1000000)→(zj r).length≤1000001 * r.length
 | [],_=>by simp [zj]
 |a::r,h=>by
  have ih:=qkn r fun s hs=>h s (by simp [hs])
  have ha:=h a (by simp)
  simp only [zj,List.flatMap_cons,List.length_append,List.length_cons,List.length_nil] at ih ⊢
  omega
end Go.Pl
namespace Go.Proofs.YtmoklbacdkmkaaaGreatDoor
open Go Go.Av Go.RowKit Go.Proofs Go.Pl
theorem qi0 {n:Nat} {p:PSt} (h:PB n p) (hs:n+1<900000):PB (n+1) (jl p).2:=by
 have h1:=h.lines;have h2:=h.items;have h3:=h.block;have h4:=h.fields;have h5:=h.rec0;have h6:=h.rec1
 unfold jl
 split
 ·exact⟨hs,by simp only;omega,h.linesV,by simp only;omega,by simp only;omega,h.blockV,by simp only;omega,h5,by simp only;omega⟩
 ·split
  ·exact⟨hs,by simp only;omega,h.linesV,by simp only;omega,by simp only;omega,h.blockV,by simp only;omega,h5,by simp only;omega⟩
  ·split
   ·exact⟨hs,by simp only;omega,h.linesV,by simp only;omega,by simp only;omega,h.blockV,by simp only;omega,h5,by simp only;omega⟩
   ·exact⟨hs,by simp,by simp,by simp only;omega,by simp only;omega,h.blockV,by simp;omega,h5,by simp only;omega⟩
theorem q8f (xs:List Bytes) (tip:Option Nat) (st:List AObj) (hne:xs≠[]) (hN:xs.length≤900000) (hv:∀ s∈xs,s.length<1000000):qn E 156 [.sl 1 (xs.map fun x=>Sv x) tip,Sv [10]] st fun r st'=>r=Sv (Lib.join xs [10])∧st'=st:=by
 refine q2v xs tip [10] st (by omega) ?_
 have h1:=qkn xs hv
 cases xs with
 |nil=>exact absurd rfl hne
 |cons x r=>
  have h2:=congrArg List.length (ql3 x r)
  rw [List.length_append] at h2
  simp only [List.length_cons,List.length_nil] at h2 h1 hN
  omega
def parH (a:Nat) (p:PSt):List (Nat×Option SR):=[(0,some (.cells 186 [.tp a,.i p.frm,.b p.full,.tp (a+1),.tp (a+2),.tp (a+3),.i p.records])),(a,some (.tip 1 9 (p.lines.map fun x=>Sv x))),(a+1,some (.tip 3 137 (p.items.map yy))),(a+2,some (.tip 1 9 (p.block.map fun x=>Sv x))),(a+3,some (.tip 2 156 (p.fields.map fldA)))]
theorem qns (n:Nat) (p:PSt) (hB:PB n p):ku E 169 [.bx 0 0] 5 (hpF (parH 1 p)) ⟨.a (errP (jl p).1),vl (parH 1 p),parH 5 (jl p).2++vw (parH 1 p),9⟩:=by
 refine xq [.bx 0 0] (parH 1 p) 5 (.a (errP (jl p).1)) (parH 5 (jl p).2) 9 Tryz.func169 rfl rfl rfl rfl fun S F ρ=>?_
 have hls:=hB.ls
 have hsm:=hB.small
 have hfl:=hB.fields
 by_cases h0:p.lines=[]
 ·have e:jl p=(none,p):=by unfold jl;rw [if_pos h0]
  rw [e]
  have hl0:(p.lines.map fun x=>Sv x).length=0:=by simp [h0]
  apply qh []
  repeat' (first|apply And.intro|(intro h;try exact cDd)|exact cSd|apply qb []|refine exr ?_|refine qm ?_)
 ·have hl0:(p.lines.map fun x=>Sv x).length≠0:=by simp [h0]
  by_cases hu:(jm p.lines).2=0
  ·have hun:=fun st=>q08 p.lines none st hls hu
   cases hf:p.full with
   |true=>
    have e:jl p=(some (p.frm,11),p):=by unfold jl;rw [if_neg h0,if_neg (by simp [hu]),if_pos hf]
    rw [e]
    have hft:=fun st=>qj6 p.frm 11 st
    apply qh []
    repeat' (first|apply And.intro|(intro h;try exact cDd)|exact⟨Tryz.call216⟩|refine cpe hun ?_|exact⟨Tryz.call167⟩|refine cpe hft ?_|(exact absurd (by assumption:p.full=false) (by rw [hf];decide))|exact cSd|apply qb []|refine exr ?_|refine qm ?_)
   |false=>
    have e:jl p=(none,{ p with lines:=[],fields:=p.fields++[(jm p.lines).1] }):=by unfold jl;rw [if_neg h0,if_neg (by simp [hu]),if_neg (by simp [hf])]
    rw [e]
    apply qh [51]
    repeat' (first|apply And.intro|(intro h;try exact cDd)|exact⟨Tryz.call216⟩|refine cpe hun ?_|(exact absurd (by assumption:p.full=true) (by rw [hf];decide))|exact cSd|apply qb [51]|refine exr ?_|refine qm ?_)
    all_goals first|(simp [SV.evs,SV.ev];done)|(simp [SV.evs];omega)
  ·have hun:=fun st=>q0i p.lines none st hls hu
   have e:jl p=(some (p.frm,(jm p.lines).2),p):=by unfold jl;rw [if_neg h0,if_pos hu]
   rw [e]
   have hft:=fun st=>qj6 p.frm (jm p.lines).2 st
   apply qh []
   repeat' (first|apply And.intro|(intro h;try exact cDd)|exact⟨Tryz.call216⟩|refine cpe hun ?_|exact⟨Tryz.call167⟩|refine cpe hft ?_|exact cSd|apply qb []|refine exr ?_|refine qm ?_)
theorem qzd (n:Nat) (p:PSt) (hB:PB n p) (hs:n+1<900000):ku E 103 [.bx 0 0] 5 (hpF (parH 1 p)) ⟨.a (errP (endP p).1),vl (parH 1 p),parH 5 (endP p).2++vw (parH 1 p),9⟩:=by
 refine xq [.bx 0 0] (parH 1 p) 5 (.a (errP (endP p).1)) (parH 5 (endP p).2) 9 Tryz.func103 rfl rfl rfl rfl fun S F ρ=>?_
 have hfc:=qns n p hB
 have hB2:=qi0 hB hs
 have hsame:∀ e,(jl p).1=some e→(jl p).2=p:=fun e=>by
  unfold jl
  split
  ·simp
  ·split
   ·simp
   ·split
    ·simp
    ·simp
 unfold endP
 generalize jl p=fq at hfc hB2 hsame
 obtain⟨fe,q⟩:=fq
 cases fe with
 |some e=>
  obtain rfl:=hsame e rfl
  obtain⟨a,k⟩:=e
  apply qh []
  repeat' (first|apply And.intro|(intro h;try exact cDd)|exact⟨Tryz.call169⟩|(refine jh hfc ?_)|exact cSd|apply qb []|refine exr ?_|refine qm ?_)
 |none=>
  dsimp only at hB2 hfc
  have h3:=hB2.fields
  have h4:=hB2.rec0
  have h5:=hB2.rec1
  have h1:=hB2.block
  have h2:=hB2.items
  by_cases hb:q.block=[]
  ·have e:xz q={ q with block:=[],fields:=[] }:=by unfold xz;rw [if_pos hb]
   simp only [e]
   have hl0:(q.block.map fun x=>Sv x).length=0:=by simp [hb]
   apply qh []
   repeat' (first|apply And.intro|(intro h;try exact cDd)|exact⟨Tryz.call169⟩|(refine jh hfc ?_)|exact cSd|apply qb []|refine exr ?_|refine qm ?_)
  ·have hl0:(q.block.map fun x=>Sv x).length≠0:=by simp [hb]
   have hbl:=qkn q.block hB2.blockV
   obtain⟨b,r,hbr⟩:∃ b r,q.block=b::r:=by
    cases hq:q.block with
    |nil=>exact absurd hq hb
    |cons b r=>exact⟨b,r,rfl⟩
   have hjt:=ql3 b r
   rw [← hbr] at hjt
   have hjl:=congrArg List.length hjt
   simp only [List.length_append,List.length_cons,List.length_nil] at hjl
   have hjo:=fun st=>q8f q.block none st hb (by omega) hB2.blockV
   by_cases hf:q.fields=[]
   ·have e:xz q={ q with items:=q.items++[⟨2,zj q.block,q.fields⟩],records:=q.records,block:=[],fields:=[] }:=by unfold xz;rw [if_neg hb,if_pos hf,if_pos hf]
    simp only [e]
    have hl1:(q.fields.map fldA).length=0:=by simp [hf]
    apply qh []
    repeat' (first|apply And.intro|(intro h;try exact cDd)|exact⟨Tryz.call169⟩|(refine jh hfc ?_)|exact⟨Tryz.call156⟩|refine cpe hjo ?_|exact cSd|apply qb []|refine exr ?_|refine qm ?_)
    all_goals first|(simp [SV.evs,SV.ev,hjt];done)|(simp [SV.evs];omega)
   ·have e:xz q={ q with items:=q.items++[⟨3,zj q.block,q.fields⟩],records:=q.records+1,block:=[],fields:=[] }:=by unfold xz;rw [if_neg hb,if_neg hf,if_neg hf]
    simp only [e]
    have hl1:(q.fields.map fldA).length≠0:=by simp [hf]
    apply qh []
    repeat' (first|apply And.intro|(intro h;try exact cDd)|exact⟨Tryz.call169⟩|(refine jh hfc ?_)|exact⟨Tryz.call156⟩|refine cpe hjo ?_|exact cSd|apply qb []|refine exr ?_|refine qm ?_)
    all_goals first|(simp [SV.evs,SV.ev,hjt];done)|(simp [SV.evs];omega)
end Go.Proofs.YtmoklbacdkmkaaaGreatDoor
namespace Go.Pl
open Go Go.Proofs
def j7 (p:PSt) (no:Int) (text:Bytes):PSt:={ p with lines:=[text],frm:=no,full:=decide (p.fields.length=40∨(p.fields.length=0∧p.records=400)) }
def je (p:PSt) (no:Int) (text:Bytes) (ended:Bool) (kind:Int):Option (Int×Int)×PSt:=
 if kind=3 then
  if p.lines=[] then (some (no,2),p)
  else if ended=true then (none,{ p with lines:=p.lines++[text] })
  else jl { p with lines:=p.lines++[text] }
 else if kind=1 then endP p
 else jl p
def wb (p:PSt) (no:Int) (text:Bytes) (ended:Bool):Option (Int×Int)×PSt:=
 match (je p no text ended (qy text)).1 with
 |some e=>(some e,p)
 |none=>
  if qy text=5∨ended=false then (some (no,2),p)
  else if qy text=1 then (none,{ (je p no text ended (qy text)).2 with items:=(je p no text ended (qy text)).2.items++[⟨1,text++[10],[]⟩] })
  else if qy text=4 then (none,{ j7 (je p no text ended (qy text)).2 no text with block:=(je p no text ended (qy text)).2.block++[text] })
  else (none,{ (je p no text ended (qy text)).2 with block:=(je p no text ended (qy text)).2.block++[text] })
end Go.Pl
namespace Go.Proofs.YtmoklbacdkmkaaaGreatDoor
open Go Go.Av Go.RowKit Go.Proofs Go.Pl
theorem PB.more {n m:Nat} {p:PSt} (h:PB n p) (hm:n≤m) (hs:m<900000):PB m p:=by
 have h1:=h.lines;have h2:=h.items;have h3:=h.block;have h4:=h.fields;have h5:=h.rec0;have h6:=h.rec1
 exact⟨hs,by omega,h.linesV,by omega,by omega,h.blockV,by omega,h5,by omega⟩
theorem q4f {n:Nat} {p:PSt} (h:PB n p) (hs:n+1<900000):PB (n+1) (xz p):=by
 have h1:=h.lines;have h2:=h.items;have h3:=h.block;have h4:=h.fields;have h5:=h.rec0;have h6:=h.rec1
 unfold xz
 split
 ·exact⟨hs,by simp only;omega,h.linesV,by simp only;omega,by simp,by simp,by simp,h5,by simp only;omega⟩
 ·refine⟨hs,by simp only;omega,h.linesV,by simp;omega,by simp,by simp,by simp,?_,?_⟩
  ·simp only;split <;> omega
  ·simp only;split <;> omega
theorem qnu {n:Nat} {p:PSt} {text:Bytes} (h:PB n p) (hs:n+1<900000) (ht:text.length<1000000):PB (n+1) { p with lines:=p.lines++[text] }:=by
 have h1:=h.lines;have h2:=h.items;have h3:=h.block;have h4:=h.fields;have h5:=h.rec0;have h6:=h.rec1
 exact⟨hs,by simp;omega,qu7 h.linesV ht,by simp only;omega,by simp only;omega,h.blockV,by simp only;omega,h5,by simp only;omega⟩
theorem qum {n:Nat} {p:PSt} {text:Bytes} (h:PB n p) (hs:n+1<900000) (ht:text.length<1000000):PB (n+1) { p with block:=p.block++[text] }:=by
 have h1:=h.lines;have h2:=h.items;have h3:=h.block;have h4:=h.fields;have h5:=h.rec0;have h6:=h.rec1
 exact⟨hs,by simp only;omega,h.linesV,by simp only;omega,by simp;omega,qu7 h.blockV ht,by simp only;omega,h5,by simp only;omega⟩
theorem q5w {n:Nat} {p:PSt} {x:j6} (h:PB n p) (hs:n+1<900000):PB (n+1) { p with items:=p.items++[x] }:=by
 have h1:=h.lines;have h2:=h.items;have h3:=h.block;have h4:=h.fields;have h5:=h.rec0;have h6:=h.rec1
 exact⟨hs,by simp only;omega,h.linesV,by simp;omega,by simp only;omega,h.blockV,by simp only;omega,h5,by simp only;omega⟩
theorem q5q {n:Nat} {p:PSt} {no:Int} {text:Bytes} (h:PB n p) (hs:n+1<900000) (ht:text.length<1000000):PB (n+1) (j7 p no text):=by
 have h1:=h.lines;have h2:=h.items;have h3:=h.block;have h4:=h.fields;have h5:=h.rec0;have h6:=h.rec1
 exact⟨hs,by simp [j7],by simp [j7,ht],by simp only [j7];omega,by simp only [j7];omega,h.blockV,by simp only [j7];omega,h5,by simp only [j7];omega⟩
theorem qiu {n:Nat} {p:PSt} {no:Int} {text:Bytes} {ended:Bool} {kind:Int} (h:PB n p) (hs:n+2<900000) (ht:text.length<1000000):PB (n+2) (je p no text ended kind).2:=by
 unfold je
 split
 ·split
  ·exact h.more (by omega) hs
  ·split
   ·exact (qnu h (by omega) ht).more (by omega) hs
   ·exact qi0 (qnu h (by omega) ht) hs
 ·split
  ·unfold endP
   split
   ·exact h.more (by omega) hs
   ·exact q4f (qi0 h (by omega)) hs
  ·exact (qi0 h (by omega)).more (by omega) hs
theorem qoz (l:Bytes):1≤qy l∧qy l≤5:=by
 unfold qy
 repeat' split
 all_goals decide
theorem qws {n:Nat} {p:PSt} {no:Int} {text:Bytes} {ended:Bool} (h:PB n p) (hs:n+4<900000) (ht:text.length<1000000):PB (n+4) (wb p no text ended).2:=by
 have h2:PB (n+2) (je p no text ended (qy text)).2:=qiu h (by omega) ht
 unfold wb
 split
 ·exact h.more (by omega) hs
 ·split
  ·exact h.more (by omega) hs
  ·split
   ·exact (q5w h2 (by omega)).more (by omega) hs
   ·split
    ·exact qum (q5q h2 (by omega) ht) hs ht
    ·exact (qum h2 (by omega) ht).more (by omega) hs
theorem q4e (n:Nat) (p:PSt) (no at':Int) (text:Bytes) (ended:Bool) (hB:PB n p):ku E 168 [.bx 0 0,.ag [.i no,.i at',.s text,.b ended]] 5 (hpF (parH 1 p)) ⟨.tu [],vl (parH 1 p),parH 5 (j7 p no text)++vw (parH 1 p),9⟩:=by
  refine xq [.bx 0 0,.ag [.i no,.i at',.s text,.b ended]] (parH 1 p) 5 (.tu []) (parH 5 (j7 p no text)) 9 Tryz.func168 rfl rfl rfl rfl fun S F ρ=>?_
  obtain⟨ls,fr,fu,its,bk,fs,rc⟩:=p
  have hml:(fs.map fldA).length=fs.length:=by simp
  by_cases ha:fs.length=40∨(fs.length=0∧rc=400)
  · have e:j7 ⟨ls,fr,fu,its,bk,fs,rc⟩ no text=⟨[text],no,true,its,bk,fs,rc⟩:=by
      unfold j7
      simp only [decide_eq_true ha]
    rw [e]
    apply qh [29]
    repeat' (first|apply And.intro|(intro h;try exact cDd)|exact cSd|apply qb [29]|refine exr ?_|refine qm ?_)
    all_goals (intros; simp only [hml] at *; first | (exfalso; omega) | (have hrc : rc = 400 := by omega
                                                                         subst hrc;rfl))
  · have e:j7 ⟨ls,fr,fu,its,bk,fs,rc⟩ no text=⟨[text],no,false,its,bk,fs,rc⟩:=by
      unfold j7
      simp only [decide_eq_false ha]
    rw [e]
    apply qh [29]
    repeat' (first|apply And.intro|(intro h;try exact cDd)|exact cSd|apply qb [29]|refine exr ?_|refine qm ?_)
    all_goals (intros; simp only [hml] at *; first | (exfalso; omega) | (have hrc : ¬ rc = 400 := by omega
                                                                         simp [SV.evs,SV.ev,SV.rens,SV.ren,lkS,vp,hrc];exact⟨rfl,rfl,rfl⟩))
theorem qry (n:Nat) (p:PSt) (no at':Int) (text:Bytes) (ended:Bool) (kind:Int) (hB:PB n p) (hs:n+2<900000) (ht:text.length<1000000):ku E 166 [.bx 0 0,.ag [.i no,.i at',.s text,.b ended],.i kind] 5 (hpF (parH 1 p)) ⟨.a (errP (je p no text ended kind).1),vl (parH 1 p),parH 5 (je p no text ended kind).2++vw (parH 1 p),9⟩:=by
 refine xq [.bx 0 0,.ag [.i no,.i at',.s text,.b ended],.i kind] (parH 1 p) 5 (.a (errP (je p no text ended kind).1)) (parH 5 (je p no text ended kind).2) 9 Tryz.func166 rfl rfl rfl rfl fun S F ρ=>?_
 unfold je
 by_cases hk3:kind=3
 ·rw [if_pos hk3]
  by_cases h0:p.lines=[]
  ·rw [if_pos h0]
   have hl0:(p.lines.map fun x=>Sv x).length=0:=by simp [h0]
   have hft:=fun st=>qj6 no 2 st
   apply qh []
   repeat' (first|apply And.intro|(intro h;try exact cDd)|exact⟨Tryz.call167⟩|refine cpe hft ?_|exact cSd|apply qb []|refine exr ?_|refine qm ?_)
  ·rw [if_neg h0]
   have hl0:(p.lines.map fun x=>Sv x).length≠0:=by simp [h0]
   have hll:=hB.lines
   have hsm:=hB.small
   have hml:(p.lines.map fun x=>Sv x).length=p.lines.length:=by simp
   have hfc:=qns (n+1) { p with lines:=p.lines++[text] } (qnu hB (by omega) ht)
   cases ended with
   |true=>
    rw [if_pos rfl]
    apply qh []
    repeat' (first|apply And.intro|(intro h;try exact cDd)|(exact absurd (by assumption:true=false) (by decide))|exact cSd|apply qb []|refine exr ?_|refine qm ?_)
    all_goals first|(simp [SV.evs,SV.ev];done)|(simp [SV.evs];omega)
   |false=>
    rw [if_neg (by decide)]
    apply qh []
    repeat' (first|apply And.intro|(intro h;try exact cDd)|(exact absurd (by assumption:false=true) (by decide))|exact⟨Tryz.call169⟩|(refine jh hfc ?_)|exact cSd|apply qb []|refine exr ?_|refine qm ?_)
    all_goals first|(simp [SV.evs,SV.ev];done)|(simp [SV.evs];omega)
 ·rw [if_neg hk3]
  by_cases hk1:kind=1
  ·rw [if_pos hk1]
   have hfc:=qzd n p hB (by omega)
   apply qh []
   repeat' (first|apply And.intro|(intro h;try exact cDd)|exact⟨Tryz.call103⟩|(refine jh hfc ?_)|exact cSd|apply qb []|refine exr ?_|refine qm ?_)
  ·rw [if_neg hk1]
   have hfc:=qns n p hB
   apply qh []
   repeat' (first|apply And.intro|(intro h;try exact cDd)|exact⟨Tryz.call169⟩|(refine jh hfc ?_)|exact cSd|apply qb []|refine exr ?_|refine qm ?_)
theorem q6m (n:Nat) (p:PSt) (no at':Int) (text:Bytes) (ended:Bool) (hB:PB n p) (hs:n+4<900000) (ht:text.length<1000000) (hok:(wb p no text ended).1=none):ku E 102 [.bx 0 0,.ag [.i no,.i at',.s text,.b ended]] 5 (hpF (parH 1 p)) ⟨.a (.v .nilIface),vl (parH 1 p),parH 5 (wb p no text ended).2++vw (parH 1 p),9⟩:=by
 refine xq [.bx 0 0,.ag [.i no,.i at',.s text,.b ended]] (parH 1 p) 5 (.a (.v .nilIface)) (parH 5 (wb p no text ended).2) 9 Tryz.func102 rfl rfl rfl rfl fun S F ρ=>?_
 have hfc:=qry n p no at' text ended (qy text) hB (by omega) ht
 have hB1:=qiu (no:=no) (text:=text) (ended:=ended) (kind:=qy text) hB (by omega) ht
 have hkr:=qoz text
 have hkd:=fun st=>qib text st (by omega)
 unfold wb at hok ⊢
 generalize je p no text ended (qy text)=fq at hfc hB1 hok ⊢
 obtain⟨fe,q⟩:=fq
 cases fe with
 |some e=>exact absurd hok (by simp)
 |none=>
  dsimp only at hB1 hfc hok ⊢
  have h1:=hB1.block
  have h2:=hB1.items
  have hmb:(q.block.map fun x=>Sv x).length=q.block.length:=by simp
  have hmi:(q.items.map yy).length=q.items.length:=by simp
  by_cases hk:qy text=5∨ended=false
  ·rw [if_pos hk] at hok
   exact absurd hok (by simp)
  ·rw [if_neg hk] at hok ⊢
   have hk5:qy text≠5:=fun h=>hk (.inl h)
   obtain rfl:ended=true:=by cases ended <;> simp_all
   by_cases hk1:qy text=1
   ·rw [if_pos hk1]
    apply qh []
    repeat' (first|apply And.intro|(intro h;try exact cDd)|exact⟨Tryz.call165⟩|refine cpe hkd ?_|exact⟨Tryz.call166⟩|(refine jh hfc ?_)|(exact absurd (by assumption:true=false) (by decide))|exact cSd|apply qb []|refine exr ?_|refine qm ?_)
    all_goals first|(simp [SV.evs,SV.ev];done)|(simp [SV.evs];omega)
   ·rw [if_neg hk1]
    by_cases hk4:qy text=4
    ·rw [if_pos hk4]
     have hbc:=q4e (n+2) q no at' text true hB1
     apply qh []
     repeat' (first|apply And.intro|(intro h;try exact cDd)|exact⟨Tryz.call165⟩|refine cpe hkd ?_|exact⟨Tryz.call166⟩|(refine jh hfc ?_)|exact⟨Tryz.call168⟩|(refine jh hbc ?_)|(exact absurd (by assumption:true=false) (by decide))|exact cSd|apply qb []|refine exr ?_|refine qm ?_)
     all_goals first|(simp [SV.evs,SV.ev,j7];done)|(simp [SV.evs,j7];omega)
    ·rw [if_neg hk4]
     apply qh []
     repeat' (first|apply And.intro|(intro h;try exact cDd)|exact⟨Tryz.call165⟩|refine cpe hkd ?_|exact⟨Tryz.call166⟩|(refine jh hfc ?_)|(exact absurd (by assumption:true=false) (by decide))|exact cSd|apply qb []|refine exr ?_|refine qm ?_)
     all_goals first|(simp [SV.evs,SV.ev];done)|(simp [SV.evs];omega)
theorem q59 (n:Nat) (p:PSt) (no at':Int) (text:Bytes) (ended:Bool) (hB:PB n p) (hs:n+4<900000) (ht:text.length<1000000) (a m:Int) (hok:(wb p no text ended).1=some (a,m)):ku E 102 [.bx 0 0,.ag [.i no,.i at',.s text,.b ended]] 5 (hpF (parH 1 p)) ⟨.a (qdq a m),vl (parH 1 p),parH 5 (je p no text ended (qy text)).2++vw (parH 1 p),9⟩:=by
 refine xq [.bx 0 0,.ag [.i no,.i at',.s text,.b ended]] (parH 1 p) 5 (.a (qdq a m)) (parH 5 (je p no text ended (qy text)).2) 9 Tryz.func102 rfl rfl rfl rfl fun S F ρ=>?_
 have hfc:=qry n p no at' text ended (qy text) hB (by omega) ht
 have hB1:=qiu (no:=no) (text:=text) (ended:=ended) (kind:=qy text) hB (by omega) ht
 have hkr:=qoz text
 have hkd:=fun st=>qib text st (by omega)
 unfold wb at hok
 generalize je p no text ended (qy text)=fq at hfc hB1 hok ⊢
 obtain⟨fe,q⟩:=fq
 cases fe with
 |some e=>
  dsimp only at hB1 hfc hok ⊢
  obtain rfl:e=(a,m):=by simpa using hok
  apply qh []
  repeat' (first|apply And.intro|(intro h;try exact cDd)|exact⟨Tryz.call165⟩|refine cpe hkd ?_|exact⟨Tryz.call166⟩|(refine jh hfc ?_)|exact cSd|apply qb []|refine exr ?_|refine qm ?_)
 |none=>
  dsimp only at hB1 hfc hok ⊢
  by_cases hk:qy text=5∨ended=false
  ·rw [if_pos hk] at hok
   obtain⟨rfl,rfl⟩:no=a∧2=m:=by simpa using hok
   have hft:=fun st=>qj6 no 2 st
   cases ended with
   |true=>
    have hk5:qy text=5:=by simpa using hk
    apply qh []
    repeat' (first|apply And.intro|(intro h;try exact cDd)|exact⟨Tryz.call165⟩|refine cpe hkd ?_|exact⟨Tryz.call167⟩|refine cpe hft ?_|exact⟨Tryz.call166⟩|(refine jh hfc ?_)|(exact absurd (by assumption:true=false) (by decide))|exact cSd|apply qb []|refine exr ?_|refine qm ?_)
   |false=>
    apply qh []
    repeat' (first|apply And.intro|(intro h;try exact cDd)|exact⟨Tryz.call165⟩|refine cpe hkd ?_|exact⟨Tryz.call167⟩|refine cpe hft ?_|exact⟨Tryz.call166⟩|(refine jh hfc ?_)|(exact absurd (by assumption:false=true) (by decide))|exact cSd|apply qb []|refine exr ?_|refine qm ?_)
  ·rw [if_neg hk] at hok
   split at hok
   ·simp at hok
   ·split at hok
    ·simp at hok
    ·simp at hok
end Go.Proofs.YtmoklbacdkmkaaaGreatDoor
namespace Go.Pl
open Go Go.Proofs
def p0:PSt:=⟨[],0,false,[],[],[],0⟩
def runL:Nat→List (Bytes×Bool)→PSt→Option (Int×Int)×PSt
 | _,[],p=>endP p
 |k,(t,e)::r,p=>match (wb p k t e).1 with
  |some x=>(some x,p)
  |none=>runL (k+1) r (wb p k t e).2
def j8 (text:Bytes):Option (Int×Int)×List j6:=match (runL 0 (zr text) p0).1 with
 |some e=>(some e,[])
 |none=>(none,(runL 0 (zr text) p0).2.items)
end Go.Pl
namespace Go.Proofs.YtmoklbacdkmkaaaGreatDoor
open Go Go.Av Go.RowKit Go.Proofs Go.Pl
theorem q2i (x:Option (Int×Int)):Pure (errP x):=by
 rcases x with _ | ⟨a,n⟩
 ·exact q6 _
 ·exact qjd a n
theorem q1k (f:Fld):qk3 (fldA f):=fun x hx=>by
 simp only [AV.cells,List.mem_cons,List.not_mem_nil,or_false] at hx
 rcases hx with rfl|rfl <;> exact q6 _
theorem qdk (fs:List Fld):Pure (kv fs):=qdd fun x hx=>by
 obtain⟨f,_,rfl⟩:=List.mem_map.1 hx
 exact q1k f
theorem qm1 (x:j6):qk3 (yy x):=fun y hy=>by
 simp only [AV.cells,List.mem_cons,List.not_mem_nil,or_false] at hy
 rcases hy with rfl|rfl|rfl
 ·exact q6 _
 ·exact q6 _
 ·exact qdk _
theorem qnm (xs:List j6):Pure (qce xs):=qdd fun x hx=>by
 obtain⟨f,_,rfl⟩:=List.mem_map.1 hx
 exact qm1 f
theorem va {x y:AV} (hx:Pure x) (hy:Pure y):Pure (.tu [x,y]):=qes fun z hz=>by
 simp only [List.mem_cons,List.not_mem_nil,or_false] at hz
 rcases hz with rfl|rfl
 ·exact hx
 ·exact hy
def qcy (text:Bytes):AV:=.tu [qce (j8 text).2,errP (j8 text).1]
theorem qxm (text:Bytes):Pure (qcy text):=va (qnm _) (q2i _)
theorem qm2 {S:List AObj} {o k:Nat} {x:AObj} (h:k≠o):(S.set o x)[k]? = S[k]?:=List.getElem?_set_ne (Ne.symm h)
theorem q7i:PB 0 p0:=⟨by omega,by simp [p0],by simp [p0],by simp [p0],by simp [p0],by simp [p0],by simp [p0],by simp [p0],by simp [p0]⟩
theorem qoi (text:Bytes) (st:List AObj) (hl:text.length≤60000):qn E 58 [Sv text] st fun r st'=>r=qcy text∧st'=st:=by
 refine vc [.s text] (qxm text) Tryz.func58 rfl rfl (fun _=>rfl) rfl fun S0=>?_
 apply qh [13]
 repeat' (first|apply And.intro|(intro h;try exact cDd)|exact⟨Tryz.call100⟩|(refine Exists.intro _ ⟨qgv _,?_⟩)|exact cSd|apply qb [13]|refine exr ?_|refine qm ?_)
 refine qdh (X:=PSt×Option (Int×Int)) text 4 5 [0,1,2,3,4] (fun (p,e)=>⟨[(2,.bx 0 0),(3,.bx 1 0),(4,.bx 2 0),(15,.fn (.func 163) [] [.bx 4 0])],
   [(0,some (.cells 106 [.a zp])),(1,some (.cells 29 [.a (errP e)])),(2,some (.cells 182 [.bx 3 0])),(3,some (.cells 186 [.tp 5,.i p.frm,.b p.full,.tp 6,.tp 7,.tp 8,.i p.records])),(4,some (.cells 9 [.s text])),
    (5,some (.tip 1 9 (p.lines.map fun x=>Sv x))),(6,some (.tip 3 137 (p.items.map yy))),(7,some (.tip 1 9 (p.block.map fun x=>Sv x))),(8,some (.tip 2 156 (p.fields.map fldA)))],9⟩) _
  (fun k rest (p,e)=>e=none∧PB (4 * k) p∧k+rest.length≤text.length∧runL 0 (zr text) p0=runL k (zr rest) p)
  (fun c (p,e)=>∃ a m,c = .ret∧e=some (a,m)∧(runL 0 (zr text) p0).1=some (a,m)) (p0,none) ⟨rfl,q7i,by omega,rfl⟩ ?_ id (by omega) (fun _=>rfl) rfl (fun _=>rfl) (fun _=>rfl) rfl ?_ ?_ ?_
 ·skip
  repeat' (first|apply And.intro|(intro h;try exact cDd)|exact cSd|apply qb []|refine exr ?_|refine qm ?_)
 ·rintro k rest ⟨p,e⟩ ⟨rfl,hB,hkl,hrun⟩ hne hle
  have hcons:=we hne
  have hu:=kf 10 rest
  have hpl:=ju 10 rest
  have hr0:0<rest.length:=List.length_pos_iff.2 hne
  rw [hcons] at hrun
  simp only [runL] at hrun
  unfold qi7
  generalize hen:decide (10∈rest)=en at hrun
  generalize upto 10 rest=up at hu hrun ⊢
  have hB2:=qws (no:=k) (text:=up) (ended:=en) hB (by omega) (by omega)
  cases hah:(wb p k up en).1 with
  |some e=>
   obtain⟨a,m⟩:=e
   rw [hah] at hrun
   simp only at hrun
   have htk:=q59 (4 * k) p k ((text.length:Int) - rest.length) up en hB (by omega) (by omega) a m hah
   refine RA.mk fun S F ρ rd=>?_
   apply qh []
   repeat' (first|apply And.intro|(intro h;try exact cDd)|(refine RB.mk fun S rd=>?_;apply qh [])|exact⟨Tryz.call102⟩|(refine jh htk ?_)|(refine Exists.intro ((je p k up en (qy up)).2,some (a,m)) ⟨⟨a,m,rfl,rfl,by rw [hrun]⟩,?_⟩)|exact cSd|apply qb []|refine exr ?_|refine qm ?_)
   all_goals (rw [← hen];rfl)
  |none=>
   rw [hah] at hrun
   simp only at hrun
   have htk:=q6m (4 * k) p k ((text.length:Int) - rest.length) up en hB (by omega) (by omega) hah
   refine RA.mk fun S F ρ rd=>?_
   apply qh []
   repeat' (first|apply And.intro|(intro h;try exact cDd)|(refine RB.mk fun S rd=>?_;apply qh [])|exact⟨Tryz.call102⟩|(refine jh htk ?_)|(refine Exists.intro ((wb p k up en).2,none) ⟨⟨rfl,hB2,by omega,hrun⟩,?_⟩)|exact cSd|apply qb []|refine exr ?_|refine qm ?_)
   all_goals (rw [← hen];rfl)
 ·rintro k ⟨p,e⟩ ⟨rfl,hB,hkl,hrun⟩
  have hre:runL k (zr []) p=endP p:=by rw [wg];rfl
  rw [hre] at hrun
  have hpe:=qzd (4 * k) p hB (by omega)
  generalize endP p=fq at hrun hpe
  obtain⟨fe,q⟩:=fq
  cases fe with
  |some e=>
   have hpf:qcy text = .tu [qce [],errP (some e)]:=by unfold qcy j8;rw [hrun]
   rw [hpf]
   obtain⟨a,m⟩:=e
   repeat' (first|apply And.intro|(intro h;try exact cDd)|exact⟨Tryz.call103⟩|(refine jh hpe ?_)|exact cSd|apply qb []|refine exr ?_|refine qm ?_)
  |none=>
   have hpf:qcy text = .tu [qce q.items,errP none]:=by unfold qcy j8;rw [hrun]
   rw [hpf]
   dsimp only at hpe
   repeat' (first|apply And.intro|(intro h;try exact cDd)|exact⟨Tryz.call103⟩|(refine jh hpe ?_)|exact cSd|apply qb []|refine exr ?_|refine qm ?_)
 ·rintro c ⟨p,e⟩ ⟨a,m,rfl,rfl,hre⟩
  have hpf:qcy text = .tu [qce [],errP (some (a,m))]:=by unfold qcy j8;rw [hre]
  rw [hpf]
  repeat' (first|apply And.intro|(intro h;try exact cDd)|exact cSd|apply qb []|refine exr ?_|refine qm ?_)
end Go.Proofs.YtmoklbacdkmkaaaGreatDoor
namespace Go.Proofs.YtmoklbacdkmkaaaGreatDoor
open Go Go.RowKit Go.Extern.Stop Go.Stop Go.Extern Go.Proofs
theorem asT.valueOf27 (t:Addr) (w:World):(ReflectliteValue.unpack (.iface 165 (.pointer (some t)))).run Tryz.prog w
  = .ok (.agg #[.pointer (some ⟨9,165,none⟩),.pointer (some ⟨w.heap.size,0,none⟩),.int .u64 150]) (w.alloc (.cells #[.pointer (some t)] 165)):=by kernel_rfl
theorem asT.type27 (a : Addr) (w : World) : (ReflectliteValue.methodAny (ReflectliteValue.valueError "reflectlite.Value.Type" 0) (fun t _ _ _ => ReflectliteType.toType t) #[.agg #[.pointer (some ⟨9, 165, none⟩), .pointer (some a), .int .u64 150]]).run Tryz.prog w
  = .ok (.iface 277 (.agg #[.pointer (some ⟨9,165,none⟩)])) w:=by kernel_rfl
theorem asT.methodKind (h : Value) (w : World) : (Go.method 495 277 (.agg #[h]) "Kind").run Tryz.prog w = .ok (307, h) w := by kernel_rfl
theorem asT.kind27 (w:World):((ReflectliteType.abiMethod fun t=>(fun a:Nat=>Value.int IntKind.u8 (a:Int)) <$> Rtype.kind t) #[.pointer (some ⟨9,165,none⟩)]).run Tryz.prog w = .ok (.int .u8 22) w:=by kernel_rfl
theorem asT.kind25 (w:World):((ReflectliteType.abiMethod fun t=>(fun a:Nat=>Value.int IntKind.u8 (a:Int)) <$> Rtype.kind t) #[.pointer (some ⟨9,101,none⟩)]).run Tryz.prog w = .ok (.int .u8 22) w:=by kernel_rfl
theorem rlm (z:Sem Value) (f:TypeId→Addr→Nat→Nat→Sem Value) (v:Value) :
  ReflectliteValue.method z f #[v]=(do match ← ReflectliteValue.parts v with|none=>z|some (t,a,fl)=>f t a fl (fl % 32)):=rfl
theorem asT.parts27 (a:Addr) (w:World):(ReflectliteValue.parts (.agg #[.pointer (some ⟨9,165,none⟩),.pointer (some a),.int .u64 150])).run Tryz.prog w = .ok (some (165,a,150)) w:=by kernel_rfl
theorem asT.isNil27 (a p:Addr) (W:World) (ha:W.cell? a=some (.pointer (some p))) :
  (ReflectliteValue.method (ReflectliteValue.valueError "reflectlite.Value.IsNil" 0) ReflectliteValue.isNil #[.agg #[.pointer (some ⟨9, 165, none⟩), .pointer (some a), .int .u64 150]]).run Tryz.prog W = .ok (.bool false) W := by
 rw [rlm]
 simp only [Sem.run_bind,asT.parts27,Result.andThen]
 simp [ReflectliteValue.isNil,loadVar,isAgg,underlying,Tryz.underlying165,ha,Result.andThen]
theorem asT.methodElem (h : Value) (w : World) : (Go.method 495 277 (.agg #[h]) "Elem").run Tryz.prog w = .ok (321, .agg #[h]) w := by kernel_rfl
theorem asT.methodImplements (h : Value) (w : World) : (Go.method 495 277 (.agg #[h]) "Implements").run Tryz.prog w = .ok (322, .agg #[h]) w := by kernel_rfl
theorem asT.methodAssignableTo (h : Value) (w : World) : (Go.method 495 277 (.agg #[h]) "AssignableTo").run Tryz.prog w = .ok (319, .agg #[h]) w := by kernel_rfl
theorem asT.elem27 (w:World):(ReflectliteType.method ReflectliteType.elem #[.agg #[.pointer (some ⟨9,165,none⟩)]]).run Tryz.prog w = .ok (.iface 277 (.agg #[.pointer (some ⟨9,101,none⟩)])) w:=by kernel_rfl
theorem asT.implements25 (w : World) : (ReflectliteType.relation "Implements" ReflectliteType.implements_ #[.agg #[.pointer (some ⟨9, 101, none⟩)], .iface 277 (.agg #[.pointer (some ⟨9, 29, none⟩)])]).run Tryz.prog w = .ok (.bool true) w := by kernel_rfl
theorem asT.typeOf25 (v:Value) (w:World):(ReflectliteType.typeOf #[.iface 101 v]).run Tryz.prog w = .ok (.iface 277 (.agg #[.pointer (some ⟨9,101,none⟩)])) w:=by kernel_rfl
theorem asT.assignable25 (w : World) : (ReflectliteType.relation "AssignableTo" ReflectliteType.assignableTo #[.agg #[.pointer (some ⟨9, 101, none⟩)], .iface 277 (.agg #[.pointer (some ⟨9, 101, none⟩)])]).run Tryz.prog w = .ok (.bool true) w := by kernel_rfl
theorem asT.valueOf25 (e:Addr) (w:World):(ReflectliteValue.unpack (.iface 101 (.pointer (some e)))).run Tryz.prog w
  = .ok (.agg #[.pointer (some ⟨9,101,none⟩),.pointer (some ⟨w.heap.size,0,none⟩),.int .u64 150]) (w.alloc (.cells #[.pointer (some e)] 101)):=by kernel_rfl
theorem asT.elemOf27 (w:World):(Rtype.elem? 165).run Tryz.prog w = .ok (some 101) w:=by kernel_rfl
theorem asT.mk25 (p:Addr) (w:World):(ReflectliteValue.mk 101 p ReflectliteValue.flagAddr).run Tryz.prog w = .ok (.agg #[.pointer (some ⟨9,101,none⟩),.pointer (some p),.int .u64 406]) w:=by kernel_rfl
theorem asT.elemV27 (a p:Addr) (W:World) (ha:W.cell? a=some (.pointer (some p))) :
  (ReflectliteValue.method (ReflectliteValue.valueError "reflectlite.Value.Elem" 0) ReflectliteValue.elem #[.agg #[.pointer (some ⟨9, 165, none⟩), .pointer (some a), .int .u64 150]]).run Tryz.prog W
   = .ok (.agg #[.pointer (some ⟨9,101,none⟩),.pointer (some p),.int .u64 406]) W:=by
 rw [rlm]
 simp only [Sem.run_bind,asT.parts27,Result.andThen]
 simp [ReflectliteValue.elem,loadVar,isAgg,underlying,Tryz.underlying165,ha,Result.andThen,asT.elemOf27,asT.mk25]
theorem rls (v x:Value):ReflectliteValue.set #[v,x]=(do
  let (some (dst,a,fl),some (src,b,_)):=(← ReflectliteValue.parts v,← ReflectliteValue.parts x)
   | unsupported (.noEntry "extern/(internal/reflectlite.Value).Set.zeroValue")
  if fl / ReflectliteValue.flagAddr % 2 == 0 then unsupported (.noEntry "extern/(internal/reflectlite.Value).Set.unaddressable")
  let val ← loadVar src b
  if ← Rtype.directlyAssignable dst src then storeVar dst a val
  else if ← Rtype.implements dst src then
   if (← Rtype.kind src) == 20 then
    match val with
    | .nilIface => unsupported (.noEntry "extern/reflectlite: a nil value of one interface type handed on as a value of another")
    | _=>storeVar dst a val
   else storeVar dst a (.iface src val)
  else panicString ("reflectlite.Set: value of type " ++ (← Rtype.spelt src) ++ " is not assignable to type " ++ (← Rtype.spelt dst))
  pure (.tuple #[])):=rfl
theorem asT.parts25a (a:Addr) (w:World):(ReflectliteValue.parts (.agg #[.pointer (some ⟨9,101,none⟩),.pointer (some a),.int .u64 406])).run Tryz.prog w = .ok (some (101,a,406)) w:=by kernel_rfl
theorem asT.parts25 (a:Addr) (w:World):(ReflectliteValue.parts (.agg #[.pointer (some ⟨9,101,none⟩),.pointer (some a),.int .u64 150])).run Tryz.prog w = .ok (some (101,a,150)) w:=by kernel_rfl
theorem asT.direct25 (w:World):(Rtype.directlyAssignable 101 101).run Tryz.prog w = .ok true w:=by kernel_rfl
theorem asT.set25 (ta b e:Addr) (old:Value) (W:World) (hb:W.cell? b=some (.pointer (some e))) (ht:W.cell? ta=some old) (hf:W.frozen? ta=false) :
  (ReflectliteValue.set #[.agg #[.pointer (some ⟨9,101,none⟩),.pointer (some ta),.int .u64 406],.agg #[.pointer (some ⟨9,101,none⟩),.pointer (some b),.int .u64 150]]).run Tryz.prog W
   = .ok (.tuple #[]) (W.setCell ta (.pointer (some e))):=by
 rw [rls]
 simp only [Sem.run_bind,asT.parts25a,asT.parts25,Result.andThen]
 simp [ReflectliteValue.flagAddr,loadVar,isAgg,underlying,Tryz.underlying101,hb,Result.andThen,asT.direct25,storeVar,Value.cells,storeCells,Addr.add]
 rw [run_store Tryz.prog W ta _ _ (by rfl)]
 simp [ht,hf]
set_option maxHeartbeats 4000000 in
theorem zan (e t:Addr) (old:Value) (w:World) (hg:w.cell? ⟨0,0,none⟩=some (.iface 277 (.agg #[.pointer (some ⟨9,29,none⟩)]))) (ht0:w.cell? t=some old) (hf0:w.frozen? t=false) :
  Calls Tryz.prog 85 #[.iface 101 (.pointer (some e)),.iface 165 (.pointer (some t))] w fun ev w'=>ev = .returned (.bool true)∧w'=((((w.alloc (.cells #[.pointer (some t)] 165)).alloc (.cells #[.pointer (some ⟨9,165,none⟩),.pointer (some ⟨w.heap.size,0,none⟩),.int .u64 150] 233)).alloc (.cells #[.pointer (some ⟨9,165,none⟩),.pointer (some ⟨w.heap.size,0,none⟩),.int .u64 150] 233)).alloc (.cells #[.pointer (some e)] 101)).setCell t (.pointer (some e)):=by
 have h6:=@run_callFunc_extern Tryz.prog 150 _ (fun args=>ReflectliteValue.unpack (args.getD 0 (.tuple #[]))) Tryz.func150 (by kernel_rfl) (by kernel_rfl) (by kernel_rfl) (by kernel_rfl)
 have h7 := @run_callFunc_extern Tryz.prog 151 _ (ReflectliteValue.methodAny (ReflectliteValue.valueError "reflectlite.Value.Type" 0) (fun t _ _ _ => ReflectliteType.toType t)) Tryz.func151 (by kernel_rfl) (by kernel_rfl) (by kernel_rfl) (by kernel_rfl)
 have h8 := @run_callFunc_extern Tryz.prog 152 _ (ReflectliteValue.method (ReflectliteValue.valueError "reflectlite.Value.IsNil" 0) ReflectliteValue.isNil) Tryz.func152 (by kernel_rfl) (by kernel_rfl) (by kernel_rfl) (by kernel_rfl)
 have h27:=@run_callFunc_extern Tryz.prog 307 _ (ReflectliteType.abiMethod fun t=>do pure (.int .u8 (← Rtype.kind t))) Tryz.func307 (by kernel_rfl) (by kernel_rfl) (by kernel_rfl) (by kernel_rfl)
 have h37:=@run_callFunc_extern Tryz.prog 321 _ (ReflectliteType.method ReflectliteType.elem) Tryz.func321 (by kernel_rfl) (by kernel_rfl) (by kernel_rfl) (by kernel_rfl)
 have h38 := @run_callFunc_extern Tryz.prog 322 _ (ReflectliteType.relation "Implements" ReflectliteType.implements_) Tryz.func322 (by kernel_rfl) (by kernel_rfl) (by kernel_rfl) (by kernel_rfl)
 have h10:=@run_callFunc_extern Tryz.prog 148 _ ReflectliteType.typeOf Tryz.func148 (by kernel_rfl) (by kernel_rfl) (by kernel_rfl) (by kernel_rfl)
 have h35 := @run_callFunc_extern Tryz.prog 319 _ (ReflectliteType.relation "AssignableTo" ReflectliteType.assignableTo) Tryz.func319 (by kernel_rfl) (by kernel_rfl) (by kernel_rfl) (by kernel_rfl)
 have h11 := @run_callFunc_extern Tryz.prog 199 _ (ReflectliteValue.method (ReflectliteValue.valueError "reflectlite.Value.Elem" 0) ReflectliteValue.elem) Tryz.func199 (by kernel_rfl) (by kernel_rfl) (by kernel_rfl) (by kernel_rfl)
 have h12:=@run_callFunc_extern Tryz.prog 200 _ ReflectliteValue.set Tryz.func200 (by kernel_rfl) (by kernel_rfl) (by kernel_rfl) (by kernel_rfl)
 have tO:=asT.typeOf25
 have mA:=asT.methodAssignableTo
 have a25:=asT.assignable25
 have v25:=asT.valueOf25
 have f6:=asT.valueOf27
 have f7:=asT.type27
 have mK:=asT.methodKind
 have mE:=asT.methodElem
 have mI:=asT.methodImplements
 have k27:=asT.kind27
 have k25:=asT.kind25
 have e27:=asT.elem27
 have i25:=asT.implements25
 have n8:=asT.isNil27 ⟨w.heap.size,0,none⟩ t ((w.alloc (.cells #[.pointer (some t)] 165)).alloc (.cells #[.pointer (some ⟨9,165,none⟩),.pointer (some ⟨w.heap.size,0,none⟩),.int .u64 150] 233)) (by simp)
 have hlt:0<w.heap.size:=by
  rcases Nat.lt_or_ge 0 w.heap.size with h|h
  ·exact h
  ·simp [World.cell?,Array.getElem?_eq_none h] at hg
 have hg2:((w.alloc (.cells #[.pointer (some t)] 165)).alloc (.cells #[.pointer (some ⟨9,165,none⟩),.pointer (some ⟨w.heap.size,0,none⟩),.int .u64 150] 233)).cell? ⟨0,0,none⟩=some (.iface 277 (.agg #[.pointer (some ⟨9,29,none⟩)])):=by
  rw [World.cell?_alloc_lt _ _ ⟨0,0,none⟩ (by first|(simp;done)|(simp;omega)),World.cell?_alloc_lt _ _ ⟨0,0,none⟩ hlt];exact hg
 have htl:t.block<w.heap.size:=by
  rcases Nat.lt_or_ge t.block w.heap.size with h|h
  ·exact h
  ·simp [World.cell?,Array.getElem?_eq_none h] at ht0
 have el:=asT.elemV27 ⟨w.heap.size,0,none⟩ t (((w.alloc (.cells #[.pointer (some t)] 165)).alloc (.cells #[.pointer (some ⟨9,165,none⟩),.pointer (some ⟨w.heap.size,0,none⟩),.int .u64 150] 233)).alloc (.cells #[.pointer (some ⟨9,165,none⟩),.pointer (some ⟨w.heap.size,0,none⟩),.int .u64 150] 233)) (by rw [World.cell?_alloc_lt _ _ ⟨w.heap.size,0,none⟩ (by first|(simp;done)|(simp;omega))];simp)
 have st:=asT.set25 t ⟨w.heap.size+1+1+1,0,none⟩ e old ((((w.alloc (.cells #[.pointer (some t)] 165)).alloc (.cells #[.pointer (some ⟨9,165,none⟩),.pointer (some ⟨w.heap.size,0,none⟩),.int .u64 150] 233)).alloc (.cells #[.pointer (some ⟨9,165,none⟩),.pointer (some ⟨w.heap.size,0,none⟩),.int .u64 150] 233)).alloc (.cells #[.pointer (some e)] 101))
  (by rw [World.cell?_alloc_at _ _ _ _ (by simp)];rfl)
  (by rw [World.cell?_alloc_lt _ _ t (by first|(simp;done)|(simp;omega)),World.cell?_alloc_lt _ _ t (by first|(simp;done)|(simp;omega)),World.cell?_alloc_lt _ _ t (by first|(simp;done)|(simp;omega)),World.cell?_alloc_lt _ _ t htl];exact ht0)
  (by rw [World.frozen?_alloc_old _ _ t (by first|(simp;done)|(simp;omega)),World.frozen?_alloc_old _ _ t (by first|(simp;done)|(simp;omega)),World.frozen?_alloc_old _ _ t (by first|(simp;done)|(simp;omega)),World.frozen?_alloc_old _ _ t (Nat.ne_of_lt htl)];exact hf0)
 go_enter Tryz.func85,Tryz.ntmps85
 go_wp2
 refine wp_loop_rounds 1 ?_
 rw [rounds_succ]
 go_wp2
 go_ret
 exact⟨rfl,rfl⟩
theorem asT.typeOf31 (v:Value) (w:World):(ReflectliteType.typeOf #[.iface 76 v]).run Tryz.prog w = .ok (.iface 277 (.agg #[.pointer (some ⟨9,76,none⟩)])) w:=by kernel_rfl
theorem asT.assignable31 (w : World) : (ReflectliteType.relation "AssignableTo" ReflectliteType.assignableTo #[.agg #[.pointer (some ⟨9, 76, none⟩)], .iface 277 (.agg #[.pointer (some ⟨9, 101, none⟩)])]).run Tryz.prog w = .ok (.bool false) w := by kernel_rfl
theorem asT.no230 (v:Value) (xT:TypeId) (w:World):(Instr.typeAssert (.iface 76 v) xT 288 true).run Tryz.prog w = .ok (.tuple #[.nilIface,.bool false]) w:=run_typeAssert_lacksB Tryz.underlying288 (by kernel_rfl) (by kernel_rfl) v xT w
theorem asT.no233 (v:Value) (xT:TypeId) (w:World):(Instr.typeAssert (.iface 76 v) xT 282 true).run Tryz.prog w = .ok (.tuple #[.nilIface,.bool false]) w:=run_typeAssert_lacksB Tryz.underlying282 (by kernel_rfl) (by kernel_rfl) v xT w
theorem asT.no234 (v:Value) (xT:TypeId) (w:World):(Instr.typeAssert (.iface 76 v) xT 283 true).run Tryz.prog w = .ok (.tuple #[.nilIface,.bool false]) w:=run_typeAssert_lacksB Tryz.underlying283 (by kernel_rfl) (by kernel_rfl) v xT w
set_option maxHeartbeats 4000000 in
theorem q84 (n:Int) (t:Addr) (old:Value) (w:World) (hg:w.cell? ⟨0,0,none⟩=some (.iface 277 (.agg #[.pointer (some ⟨9,29,none⟩)]))) (ht0:w.cell? t=some old) :
  Calls Tryz.prog 85 #[.iface 76 (.int .i64 n),.iface 165 (.pointer (some t))] w fun ev w'=>ev = .returned (.bool false)∧Below w.heap.size w w':=by
 have h6:=@run_callFunc_extern Tryz.prog 150 _ (fun args=>ReflectliteValue.unpack (args.getD 0 (.tuple #[]))) Tryz.func150 (by kernel_rfl) (by kernel_rfl) (by kernel_rfl) (by kernel_rfl)
 have h7 := @run_callFunc_extern Tryz.prog 151 _ (ReflectliteValue.methodAny (ReflectliteValue.valueError "reflectlite.Value.Type" 0) (fun t _ _ _ => ReflectliteType.toType t)) Tryz.func151 (by kernel_rfl) (by kernel_rfl) (by kernel_rfl) (by kernel_rfl)
 have h8 := @run_callFunc_extern Tryz.prog 152 _ (ReflectliteValue.method (ReflectliteValue.valueError "reflectlite.Value.IsNil" 0) ReflectliteValue.isNil) Tryz.func152 (by kernel_rfl) (by kernel_rfl) (by kernel_rfl) (by kernel_rfl)
 have h27:=@run_callFunc_extern Tryz.prog 307 _ (ReflectliteType.abiMethod fun t=>do pure (.int .u8 (← Rtype.kind t))) Tryz.func307 (by kernel_rfl) (by kernel_rfl) (by kernel_rfl) (by kernel_rfl)
 have h37:=@run_callFunc_extern Tryz.prog 321 _ (ReflectliteType.method ReflectliteType.elem) Tryz.func321 (by kernel_rfl) (by kernel_rfl) (by kernel_rfl) (by kernel_rfl)
 have h38 := @run_callFunc_extern Tryz.prog 322 _ (ReflectliteType.relation "Implements" ReflectliteType.implements_) Tryz.func322 (by kernel_rfl) (by kernel_rfl) (by kernel_rfl) (by kernel_rfl)
 have h10:=@run_callFunc_extern Tryz.prog 148 _ ReflectliteType.typeOf Tryz.func148 (by kernel_rfl) (by kernel_rfl) (by kernel_rfl) (by kernel_rfl)
 have h35 := @run_callFunc_extern Tryz.prog 319 _ (ReflectliteType.relation "AssignableTo" ReflectliteType.assignableTo) Tryz.func319 (by kernel_rfl) (by kernel_rfl) (by kernel_rfl) (by kernel_rfl)
 have h11 := @run_callFunc_extern Tryz.prog 199 _ (ReflectliteValue.method (ReflectliteValue.valueError "reflectlite.Value.Elem" 0) ReflectliteValue.elem) Tryz.func199 (by kernel_rfl) (by kernel_rfl) (by kernel_rfl) (by kernel_rfl)
 have h12:=@run_callFunc_extern Tryz.prog 200 _ ReflectliteValue.set Tryz.func200 (by kernel_rfl) (by kernel_rfl) (by kernel_rfl) (by kernel_rfl)
 have tO:=asT.typeOf31
 have mA:=asT.methodAssignableTo
 have a25:=asT.assignable31
 have f6:=asT.valueOf27
 have f7:=asT.type27
 have mK:=asT.methodKind
 have mE:=asT.methodElem
 have mI:=asT.methodImplements
 have k27:=asT.kind27
 have k25:=asT.kind25
 have e27:=asT.elem27
 have i25:=asT.implements25
 have n8:=asT.isNil27 ⟨w.heap.size,0,none⟩ t ((w.alloc (.cells #[.pointer (some t)] 165)).alloc (.cells #[.pointer (some ⟨9,165,none⟩),.pointer (some ⟨w.heap.size,0,none⟩),.int .u64 150] 233)) (by simp)
 have hlt:0<w.heap.size:=by
  rcases Nat.lt_or_ge 0 w.heap.size with h|h
  ·exact h
  ·simp [World.cell?,Array.getElem?_eq_none h] at hg
 have hg2:((w.alloc (.cells #[.pointer (some t)] 165)).alloc (.cells #[.pointer (some ⟨9,165,none⟩),.pointer (some ⟨w.heap.size,0,none⟩),.int .u64 150] 233)).cell? ⟨0,0,none⟩=some (.iface 277 (.agg #[.pointer (some ⟨9,29,none⟩)])):=by
  rw [World.cell?_alloc_lt _ _ ⟨0,0,none⟩ (by first|(simp;done)|(simp;omega)),World.cell?_alloc_lt _ _ ⟨0,0,none⟩ hlt];exact hg
 have htl:t.block<w.heap.size:=by
  rcases Nat.lt_or_ge t.block w.heap.size with h|h
  ·exact h
  ·simp [World.cell?,Array.getElem?_eq_none h] at ht0
 have n1:=asT.no230
 have n2:=asT.no233
 have n3:=asT.no234
 go_enter Tryz.func85,Tryz.ntmps85
 go_wp2
 refine wp_loop_rounds 1 ?_
 rw [rounds_succ]
 go_wp2
 go_ret
 exact⟨rfl,(((Below.refl _ _).alloc (Nat.le_refl _) _).alloc (by simp) _).alloc (by first|(simp;done)|(simp;omega)) _⟩
end Go.Proofs.YtmoklbacdkmkaaaGreatDoor
namespace Go.Proofs.YtmoklbacdkmkaaaGreatDoor
open Go Go.Av Go.RowKit Go.Proofs Go.Pl
theorem qw8 {w:World} {b:Nat} {T:TypeId} {fz:Nat×Nat} {c:Array Value} (v:Value) (hc:w.heap[b]? = some (.cells c T fz)) (h1:c.size=1):w.setCell ⟨b,0,none⟩ v=w.setRow b #[v]:=by
 unfold World.setCell World.setRow
 congr 1
 apply Array.ext_getElem?
 intro i
 rw [Array.getElem?_modify,Array.getElem?_modify]
 by_cases hi:b=i
 ·subst hi
  rw [if_pos rfl,if_pos rfl,hc]
  have:c.setIfInBounds 0 v = #[v]:=by
   apply Array.ext
   ·simp [h1]
   ·intro i h2 h3
    have:i=0:=by simp at h3;omega
    subst this
    simp
  simp [this]
 ·rw [if_neg hi,if_neg hi]
theorem qyf (a n:Int) (o:Nat) (st:List AObj) (ho:st[o]? = some (.cells 0 101 [.v (.pointer none)])):qn E 85 [qdq a n,.ifc 165 (.bx o 0 0)] st fun r st'=>r=Bv true∧st'=st.set o (.cells 0 101 [.pp [Iv a,.ifc 76 (Iv n)]]):=by
 refine⟨fun B0 w0 G vals w hL hA hR=>?_⟩
 obtain⟨v1,v2,rfl⟩:∃ x y,vals = #[x,y]:=by
  have:=hR.1
  match vals,this with
  | ⟨[x,y]⟩,_=>exact⟨x,y,rfl⟩
 have h1:=hR.2 0 _ v1 rfl rfl
 have h2:=hR.2 1 _ v2 rfl rfl
 unfold qdq at h1
 cases h1 with
 |ifc _ _ y1 h1=>
  cases h2 with
  |ifc _ _ y2 h2=>
   have hpp:=h1
   cases h1 with
   |pp _ b off pub hp hlen hr=>
    cases h2 with
    |bx _ _ _ b2 hn hv hb=>
     obtain⟨_,g1,g2,g3,c,g4,g5,g6⟩:=hA.ob o _ ho
     have hb:=hb g1
     subst hb
     have hc1:c.size=1:=by simpa using g5.symm
     have hl:=(hL w hA.below).ert
     have hcell:w.cell? ⟨(G.ob o).blk,0,none⟩=some c[0]:=by simp [World.cell?,g4,hc1]
     have hfz:w.frozen? ⟨(G.ob o).blk,0,none⟩=false:=by simp [World.frozen?,g4]
     have hlt:(G.ob o).blk<w.heap.size:=(Array.getElem?_eq_some_iff.1 g4).1
     refine (zan ⟨b,off,none⟩ ⟨(G.ob o).blk,0,none⟩ c[0] w hl hcell hfz).mono ?_
     rintro e w' ⟨rfl,rfl⟩
     have hb1:Below w.heap.size w ((((w.alloc (.cells #[.pointer (some ⟨(G.ob o).blk,0,none⟩)] 165)).alloc (.cells #[.pointer (some ⟨9,165,none⟩),.pointer (some ⟨w.heap.size,0,none⟩),.int .u64 150] 233)).alloc (.cells #[.pointer (some ⟨9,165,none⟩),.pointer (some ⟨w.heap.size,0,none⟩),.int .u64 150] 233)).alloc (.cells #[.pointer (some ⟨b,off,none⟩)] 101)):=
      ((((Below.refl _ _).alloc (Nat.le_refl _) _).alloc (by simp) _).alloc (by first|(simp;done)|(simp;omega)) _).alloc (by first|(simp;done)|(simp;omega)) _
     have hA1:=hA.fresh hb1
     obtain⟨_,k1,k2,k3,c',k4,k5,k6⟩:=hA1.ob o _ ho
     have hc1':c'.size=1:=by simpa using k5.symm
     refine⟨.bool true,G,Bv true,_,rfl,.refl G,?_,.v _,rfl,rfl⟩
     rw [qw8 _ k4 hc1']
     exact hA1.setRow ho (by simp) fun i x y hx hy=>by
      match i with
      | 0=>simp at hx hy;subst hx;subst hy;exact hpp
      |i+1=>simp at hx
theorem qwf (n:Int) (o:Nat) (st:List AObj) (ho:st[o]? = some (.cells 0 101 [.v (.pointer none)])):qn E 85 [.ifc 76 (Iv n),.ifc 165 (.bx o 0 0)] st fun r st'=>r=Bv false∧st'=st:=by
 refine⟨fun B0 w0 G vals w hL hA hR=>?_⟩
 obtain⟨v1,v2,rfl⟩:∃ x y,vals = #[x,y]:=by
  have:=hR.1
  match vals,this with
  | ⟨[x,y]⟩,_=>exact⟨x,y,rfl⟩
 have h1:=hR.2 0 _ v1 rfl rfl
 have h2:=hR.2 1 _ v2 rfl rfl
 cases h1 with
 |ifc _ _ y1 h1=>
  cases h2 with
  |ifc _ _ y2 h2=>
   cases h1 with
   |v=>
    cases h2 with
    |bx _ _ _ b2 hn hv hb=>
     obtain⟨_,g1,g2,g3,c,g4,g5,g6⟩:=hA.ob o _ ho
     have hb:=hb g1
     subst hb
     have hc1:c.size=1:=by simpa using g5.symm
     have hl:=(hL w hA.below).ert
     have hcell:w.cell? ⟨(G.ob o).blk,0,none⟩=some c[0]:=by simp [World.cell?,g4,hc1]
     refine (q84 n ⟨(G.ob o).blk,0,none⟩ c[0] w hl hcell).mono ?_
     rintro e w' ⟨rfl,hb⟩
     exact⟨_,G,Bv false,st,rfl,.refl G,hA.fresh hb,.v _,rfl,rfl⟩
end Go.Proofs.YtmoklbacdkmkaaaGreatDoor
namespace Go.Proofs.YtmoklbacdkmkaaaGreatDoor
open Go Go.Av Go.RowKit Go.Extern.Stop Go.Stop Go.Extern Go.Proofs
theorem isT.eqN (n m:Int) (w:World):(binOp .eql 29 (.iface 76 (.int .i64 n)) (.iface 76 (.int .i64 m))).run Tryz.prog w = .ok (.bool (n == m)) w:=Go.Lib.run_eql_iface_int w n m Tryz.underlying29 (by kernel_rfl) Tryz.underlying76
theorem isT.eqF (v:Value) (m:Int) (w:World):(binOp .eql 29 (.iface 101 v) (.iface 76 (.int .i64 m))).run Tryz.prog w = .ok (.bool false) w:=run_eql_iface_types _ _ _ _ Tryz.underlying29 (by decide) w
theorem isT.gd (t u v:TypeId) (a b:Value) (x y:Operand) (w:World):(eqGuard .eql t x y (.iface u a) (.iface v b)).run Tryz.prog w = .ok () w:=by simp [eqGuard]
theorem isT.no1 (v:Value) (xT:TypeId) (w:World):(Instr.typeAssert (.iface 76 v) xT 279 true).run Tryz.prog w = .ok (.tuple #[.nilIface,.bool false]) w:=run_typeAssert_lacksB Tryz.underlying279 (by kernel_rfl) (by kernel_rfl) v xT w
theorem isT.no2 (v:Value) (xT:TypeId) (w:World):(Instr.typeAssert (.iface 101 v) xT 279 true).run Tryz.prog w = .ok (.tuple #[.nilIface,.bool false]) w:=run_typeAssert_lacksB Tryz.underlying279 (by kernel_rfl) (by kernel_rfl) v xT w
theorem isT.no3 (v:Value) (xT:TypeId) (w:World):(Instr.typeAssert (.iface 76 v) xT 282 true).run Tryz.prog w = .ok (.tuple #[.nilIface,.bool false]) w:=run_typeAssert_lacksB Tryz.underlying282 (by kernel_rfl) (by kernel_rfl) v xT w
theorem isT.no4 (v:Value) (xT:TypeId) (w:World):(Instr.typeAssert (.iface 76 v) xT 283 true).run Tryz.prog w = .ok (.tuple #[.nilIface,.bool false]) w:=run_typeAssert_lacksB Tryz.underlying283 (by kernel_rfl) (by kernel_rfl) v xT w
theorem isT.has (v:Value) (xT:TypeId) (w:World):(Instr.typeAssert (.iface 101 v) xT 282 true).run Tryz.prog w = .ok (.tuple #[.iface 101 v,.bool true]) w:=run_typeAssert_hasB Tryz.underlying282 (by kernel_rfl) v xT w
theorem isT.mU (a : Addr) (w : World) : (Go.method 495 101 (.pointer (some a)) "Unwrap").run Tryz.prog w = .ok (313, .pointer (some a)) w := by kernel_rfl
theorem isT.typeOf (v:Value) (w:World):(ReflectliteType.typeOf #[.iface 76 v]).run Tryz.prog w = .ok (.iface 277 (.agg #[.pointer (some ⟨9,76,none⟩)])) w:=by kernel_rfl
theorem isT.mC (h : Value) (w : World) : (Go.method 495 277 (.agg #[h]) "Comparable").run Tryz.prog w = .ok (320, .agg #[h]) w := by kernel_rfl
theorem isT.cmp (w : World) : (ReflectliteType.method (fun t => do Rtype.noPackHeld "Comparable" t; (fun a => Value.bool a.comparable) <$> typeInfo t) #[.agg #[.pointer (some ⟨9, 76, none⟩)]]).run Tryz.prog w = .ok (.bool true) w := by kernel_rfl
set_option maxHeartbeats 4000000 in
theorem qv1 (b off:Nat) (v:Value) (w:World) (h1:w.cell? ⟨b,off+1,none⟩=some v) :
  Calls Tryz.prog 313 #[.pointer (some ⟨b,off,none⟩)] w fun ev w'=>ev = .returned v∧w'=w:=by
 go_enter Tryz.func313,Tryz.ntmps313
 go_wp2
 go_ret
 exact⟨rfl,rfl⟩
set_option maxHeartbeats 4000000 in
theorem zax (n m:Int) (w:World):Calls Tryz.prog 149 #[.iface 76 (.int .i64 n),.iface 76 (.int .i64 m),.bool true] w fun ev w'=>ev = .returned (.bool (n == m))∧w'=w:=by
 have q:=isT.eqN n m
 have gd:=isT.gd
 have n1:=isT.no1
 have n3:=isT.no3
 have n4:=isT.no4
 go_enter Tryz.func149,Tryz.ntmps149
 by_cases h:n=m
 ·subst h
  have e:(n == n)=true:=by simp
  rw [e] at q ⊢
  clear e
  go_wp2
  refine wp_loop_rounds 1 ?_
  rw [rounds_succ]
  go_wp2
  go_ret
  exact⟨rfl,rfl⟩
 ·have e:(n == m)=false:=by simpa using h
  rw [e] at q ⊢
  clear e h
  go_wp2
  refine wp_loop_rounds 1 ?_
  rw [rounds_succ]
  go_wp2
  go_ret
  exact⟨rfl,rfl⟩
set_option maxHeartbeats 4000000 in
theorem zas (b off:Nat) (n m:Int) (w:World) (h1:w.cell? ⟨b,off+1,none⟩=some (.iface 76 (.int .i64 n))):Calls Tryz.prog 149 #[.iface 101 (.pointer (some ⟨b,off,none⟩)),.iface 76 (.int .i64 m),.bool true] w fun ev w'=>ev = .returned (.bool (n == m))∧w'=w:=by
 have q:=isT.eqN n m
 have q2:=isT.eqF (.pointer (some ⟨b,off,none⟩)) m
 have gd:=isT.gd
 have n1:=isT.no1
 have n2:=isT.no2
 have n3:=isT.no3
 have n4:=isT.no4
 have hs:=isT.has
 have mU:=isT.mU
 go_enter Tryz.func149,Tryz.ntmps149
 by_cases h:n=m
 ·subst h
  have e:(n == n)=true:=by simp
  rw [e] at q ⊢
  clear e
  go_wp2
  refine wp_loop_rounds 2 ?_
  rw [rounds_succ]
  go_wp2_with (go_at_call 313;refine (qv1 b off _ _ h1).mono ?_;rintro e w' ⟨rfl,rfl⟩)
  rw [rounds_succ]
  go_wp2
  go_ret
  exact⟨rfl,rfl⟩
 ·have e:(n == m)=false:=by simpa using h
  rw [e] at q ⊢
  clear e h
  go_wp2
  refine wp_loop_rounds 2 ?_
  rw [rounds_succ]
  go_wp2_with (go_at_call 313;refine (qv1 b off _ _ h1).mono ?_;rintro e w' ⟨rfl,rfl⟩)
  rw [rounds_succ]
  go_wp2
  go_ret
  exact⟨rfl,rfl⟩
set_option maxHeartbeats 4000000 in
theorem is_w (v:Value) (t:TypeId) (m:Int) (r:Bool) (w:World) (h1:Calls Tryz.prog 149 #[.iface t v,.iface 76 (.int .i64 m),.bool true] w fun ev w'=>ev = .returned (.bool r)∧w'=w) :
  Calls Tryz.prog 84 #[.iface t v,.iface 76 (.int .i64 m)] w fun ev w'=>ev = .returned (.bool r)∧w'=w:=by
 have h10:=@run_callFunc_extern Tryz.prog 148 _ ReflectliteType.typeOf Tryz.func148 (by kernel_rfl) (by kernel_rfl) (by kernel_rfl) (by kernel_rfl)
 have h11 := @run_callFunc_extern Tryz.prog 320 _ (ReflectliteType.method (fun t => do Rtype.noPackHeld "Comparable" t; pure (.bool (← typeInfo t).comparable))) Tryz.func320 (by kernel_rfl) (by kernel_rfl) (by kernel_rfl) (by kernel_rfl)
 have tO:=isT.typeOf
 have mC:=isT.mC
 have cm:=isT.cmp
 have gd:=isT.gd
 go_enter Tryz.func84,Tryz.ntmps84
 go_wp2_with (go_at_call 149;refine h1.mono ?_;rintro e w' ⟨rfl,rfl⟩)
 go_ret
 exact⟨rfl,rfl⟩
theorem q9i (n m:Int) (st:List AObj):qn E 84 [.ifc 76 (Iv n),.ifc 76 (Iv m)] st fun r st'=>r=Bv (decide (n=m))∧st'=st:=by
 refine⟨fun B0 w0 G vals w hL hA hR=>?_⟩
 obtain⟨v1,v2,rfl⟩:∃ x y,vals = #[x,y]:=by
  have:=hR.1
  match vals,this with
  | ⟨[x,y]⟩,_=>exact⟨x,y,rfl⟩
 have h1:=hR.2 0 _ v1 rfl rfl
 have h2:=hR.2 1 _ v2 rfl rfl
 cases h1 with
 |ifc _ _ y1 h1=>
  cases h2 with
  |ifc _ _ y2 h2=>
   cases h1
   cases h2
   refine (is_w _ _ m (n == m) w (zax n m w)).mono ?_
   rintro e w' ⟨rfl,rfl⟩
   refine⟨.bool (n == m),G,Bv (decide (n=m)),_,rfl,.refl G,hA,?_,rfl,rfl⟩
   have:(n == m)=decide (n=m):=by by_cases h:n=m <;> simp [h]
   rw [this]
   exact .v _
theorem q9e (a n m:Int) (st:List AObj):qn E 84 [qdq a n,.ifc 76 (Iv m)] st fun r st'=>r=Bv (decide (n=m))∧st'=st:=by
 refine⟨fun B0 w0 G vals w hL hA hR=>?_⟩
 obtain⟨v1,v2,rfl⟩:∃ x y,vals = #[x,y]:=by
  have:=hR.1
  match vals,this with
  | ⟨[x,y]⟩,_=>exact⟨x,y,rfl⟩
 have h1:=hR.2 0 _ v1 rfl rfl
 have h2:=hR.2 1 _ v2 rfl rfl
 unfold qdq at h1
 cases h1 with
 |ifc _ _ y1 h1=>
  cases h2 with
  |ifc _ _ y2 h2=>
   cases h2
   cases h1 with
   |pp _ b off pub hp hlen hr=>
    have h0:=hr 1 _ (pub[off+1]'(by simp at hlen;omega)) rfl (by simp)
    obtain⟨c,T',fz,g1,g2⟩:=hA.pub b pub hp
    have g3:=g2 (off+1) _ (List.getElem?_eq_getElem (by simp at hlen;omega))
    generalize pub[off+1]'(by simp at hlen;omega)=y at h0 g3
    cases h0 with
    |ifc _ _ y3 h3=>
     cases h3
     have hcell:w.cell? ⟨b,off+1,none⟩=some (.iface 76 (.int .i64 n)):=by simp [World.cell?,g1,g3]
     refine (is_w _ _ m (n == m) w (zas b off n m w hcell)).mono ?_
     rintro e w' ⟨rfl,rfl⟩
     refine⟨.bool (n == m),G,Bv (decide (n=m)),_,rfl,.refl G,hA,?_,rfl,rfl⟩
     have:(n == m)=decide (n=m):=by by_cases h:n=m <;> simp [h]
     rw [this]
     exact .v _
end Go.Proofs.YtmoklbacdkmkaaaGreatDoor
namespace Go.Pl
open Go Go.Proofs
inductive ErrV where
 |no
 |num (n:Int)
 |at' (a n:Int)
 deriving DecidableEq
def ErrV.code:ErrV→Int
 | .no=>0
 | .num n=>n
 | .at' _ n=>n
def ErrV.pos:ErrV→Int
 | .no=> -9
 | .num _=> -9
 | .at' a _=>a
def yp:Nat→List Fld→ErrV
 | _,[]=>.no
 |k,f::r=>if kr f=0 then yp (k+1) r else .at' k (kr f)
def kp (fs:List Fld):ErrV:=if fs=[] then .num 2 else if 40<fs.length then .num 11 else yp 0 fs
theorem qi8:∀ (k:Nat) (p r:List Fld),(∀ x∈p,kr x=0)→yp k (p++r)=yp (k+p.length) r
 |k,[],r,_=>by simp
 |k,f::p,r,h=>by
  have h1:=h f (by simp)
  rw [List.cons_append,yp,if_pos h1,qi8 (k+1) p r fun x hx=>h x (by simp [hx])]
  congr 1
  simp
  omega
theorem ql7:∀ (k:Nat) (r:List Fld),(yp k r).code=0↔yp k r = .no
 |k,[]=>by simp [yp,ErrV.code]
 |k,f::r=>by
  unfold yp
  split
  ·exact ql7 _ r
  ·rename_i h
   simp [ErrV.code,h]
theorem qlr (fs:List Fld):(kp fs).code=0↔kp fs = .no:=by
 unfold kp
 split
 ·simp [ErrV.code]
 ·split
  ·simp [ErrV.code]
  ·exact ql7 _ _
end Go.Pl
namespace Go.Proofs.YtmoklbacdkmkaaaGreatDoor
open Go Go.Av Go.RowKit Go.Proofs Go.Pl
theorem qrh {st st':List AObj} (h:∀ k,k<st.length→st'[k]? = st[k]?):∃ ext,st'=st++ext:=by
 refine qke ?_ h
 rcases Nat.eq_zero_or_pos st.length with h0|h0
 ·omega
 ·have h1:=h (st.length - 1) (by omega)
  have h2:st[st.length - 1]? = some (st[st.length - 1]'(by omega)):=List.getElem?_eq_getElem (by omega)
  have:=lt_of_getElem? (h1.trans h2)
  omega
def gErr (x:qp):ErrV:=if x.kind=2 then (if x.fields=[] then .no else .num 2) else if x.kind=1∨x.kind=3 then kp x.fields else .num 2
def qcp:Nat→List qp→ErrV
 | _,[]=>.no
 |k,x::r=>if (gErr x).code=0 then qcp (k+1) r else .at' k (gErr x).code
def eErr (b:List qp):ErrV:=if b.length<1∨40<b.length then .num 1 else qcp 0 b
theorem qlk:∀ (k:Nat) (p r:List qp),(∀ x∈p,(gErr x).code=0)→qcp k (p++r)=qcp (k+p.length) r
 |k,[],r,_=>by simp
 |k,f::p,r,h=>by
  have h1:=h f (by simp)
  rw [List.cons_append,qcp,if_pos h1,qlk (k+1) p r fun x hx=>h x (by simp [hx])]
  congr 1
  simp
  omega
theorem qlv (x:qp):(gErr x).code=0↔gErr x = .no:=by
 unfold gErr
 split
 ·split <;> simp [ErrV.code]
 ·split
  ·exact qlr _
  ·simp [ErrV.code]
theorem qqc:∀ (k:Nat) (r:List qp),(qcp k r).code=0↔qcp k r = .no
 |k,[]=>by simp [qcp,ErrV.code]
 |k,f::r=>by
  unfold qcp
  split
  ·exact qqc _ r
  ·rename_i h
   simp [ErrV.code] at h ⊢
   exact h
theorem qi5 (b:List qp):(eErr b).code=0↔eErr b = .no:=by
 unfold eErr
 split
 ·simp [ErrV.code]
 ·exact qqc _ _
def errA:ErrV→AV
 | .no=>.v .nilIface
 | .num n=>.ifc 76 (Iv n)
 | .at' a n=>.ifc 101 (.pp [Iv a,.ifc 76 (Iv n)])
theorem vj (e:ErrV):Pure (errA e):=by
 cases e with
 |no=>exact q6 _
 |num n=>exact qb1 (q6 _)
 |at' a n=>exact qjd a n
def KeyB (fs:List Fld):Prop:=∀ f∈fs,f.1.length<4294967281
theorem qia (fs:List Fld) (st:List AObj) (e:ErrV) (h:kp fs=e) (hK:KeyB fs) (hl:fs.length<9223372036854775808):qn E 185 [kv fs] st fun r st'=>r=errA e∧st'=st:=by
 subst h
 refine q7 (vj _) (qo Tryz.func185 rfl (Nat.le_of_ble_eq_true rfl) ?_)
 have hml:(fs.map fldA).length=fs.length:=by simp
 by_cases h0:fs=[]
 ·subst h0
  repeat' (first|apply qk|apply qu|apply qc|apply qd|apply qj|apply qe|(apply qq;(iterate 3 exact rfl))|(apply qa;exact rfl;apply cd_t;exact cRa)|(apply zl;(iterate 4 exact rfl))|(apply za;exact rfl;exact rfl)|apply qr)
  exact ql rfl (zb rfl) ⟨rfl,_,rfl⟩
 have hp:0<fs.length:=List.length_pos_iff.2 h0
 by_cases h40:40<fs.length
 ·have hc:kp fs = .num 11:=by unfold kp;rw [if_neg h0,if_pos h40]
  rw [hc]
  repeat' (first|apply qk|apply qu|apply qc|apply qd|apply qj|apply qe|(apply qq;(iterate 3 exact rfl))|(apply qa;exact rfl;apply kl;exact cAo)|(apply qa;exact rfl;apply ko;exact cAo)|(apply zl;(iterate 4 exact rfl))|(apply za;exact rfl;exact rfl)|apply qr)
  exact ql rfl (zb rfl) ⟨rfl,_,rfl⟩
 have hc:kp fs=yp 0 fs:=by unfold kp;rw [if_neg h0,if_neg h40]
 rw [hc]
 repeat' (first|apply qk|apply qu|apply qc|apply qd|apply qj|apply qe|(apply qq;(iterate 3 exact rfl))|(apply qa;exact rfl;apply ko;exact cAo)|(apply zl;(iterate 4 exact rfl))|apply qs)
 refine qbo fs (fun pre s=>(∀ x∈pre,kr x=0)∧StE [(16,kv fs),(17,Iv fs.length),(18,Iv pre.length)] st [] s) ⟨by simp,qfl ⟨rfl,congrArg (fun n:Nat=>Iv (n:Int)) hml,rfl,trivial⟩ rfl⟩ ?_ ?_
 ·rintro _ ⟨h3,t,ext,rfl⟩
  have he:=qi8 0 fs [] h3
  rw [List.append_nil] at he
  rw [he]
  repeat' (first|apply qk|apply qc|apply qd|apply qe|(apply qq;(iterate 3 exact rfl))|(apply qa;exact rfl;apply ko;exact cAo)|apply jp|apply qr)
  exact ql rfl (zb rfl) ⟨rfl,x8 _ _ _ _⟩
 ·rintro pre a rest _ hr ⟨h3,t,ext,rfl⟩
  have hrlen:fs.length=pre.length+(rest.length+1):=by rw [hr];simp
  have hget:(fs.map fldA)[pre.length]? = some (fldA a):=by rw [hr];simp
  have hka:=hK a (by rw [hr];simp)
  by_cases ha:kr a=0
  ·skip
   repeat' (first|apply qk|apply qu|apply qc|apply qd|apply qj|apply qe|(apply qq;(iterate 3 exact rfl))|(apply qa;exact rfl;apply kl;exact cAo)|(apply qa;exact rfl;apply cd_f;exact cRa)|(apply zv;exact rfl;exact rfl;exact q5 (by omega) (by omega))|(apply jj;exact rfl;exact rfl)|(apply zm;exact rfl;exact rfl)|(apply zn;(iterate 3 exact rfl))|(apply zh;(iterate 5 exact rfl))|(apply zf;(iterate 11 exact rfl))|apply qs|(apply qg;exact Tryz.call226;exact qh0 _ _ hka ha)|(apply z6 (n:=pre.length);(iterate 5 exact rfl);exact hget))
   refine⟨fun x hx=>?_,qdy ⟨rfl,rfl,qhm pre a,trivial⟩ rfl⟩
   rcases List.mem_append.1 hx with hx|hx
   ·exact h3 x hx
   ·simp at hx;subst hx;exact ha
  ·have he:=qi8 0 pre (a::rest) h3
   rw [← hr,yp,if_neg ha] at he
   rw [he]
   repeat' (first|(apply qi3;(iterate 3 exact rfl))|apply qk|apply qu|apply qc|apply qd|apply qj|apply qe|(apply qq;(iterate 3 exact rfl))|(apply qa;exact rfl;apply kl;exact cAo)|(apply qa;exact rfl;apply cd_t;exact cRa)|(apply ji;exact rfl;exact rfl)|(apply za;exact rfl;exact rfl)|(apply zm;exact rfl;exact rfl)|(apply zn;(iterate 3 exact rfl))|(apply zh;(iterate 5 exact rfl))|(apply zf;(iterate 11 exact rfl))|(apply jr;(iterate 3 exact rfl))|apply qs|apply qr|(apply qg;exact Tryz.call226;exact qh9 _ _ hka ha)|(apply z6 (n:=pre.length);(iterate 5 exact rfl);exact hget))
   refine ql rfl (zb rfl) ⟨?_,x8 _ _ _ _⟩
   rw [Nat.zero_add]
   rfl
theorem qqx (x:qp) (st:List AObj) (e:ErrV) (h:gErr x=e) (hK:KeyB x.fields) (hl:x.fields.length<9223372036854775808):qn E 129 [wy x] st fun r st'=>r=errA e∧st'=st:=by
 subst h
 refine q7 (vj _) (qo Tryz.func129 rfl (Nat.le_of_ble_eq_true rfl) ?_)
 have hml:(x.fields.map fldA).length=x.fields.length:=by simp
 have hpos:x.fields=[]↔x.fields.length=0:=by simp
 unfold gErr
 by_cases h2:x.kind=2
 ·rw [if_pos h2]
  by_cases h0:x.fields=[]
  ·rw [if_pos h0]
   have hz:=hpos.1 h0
   repeat' (first|apply qk|apply qu|apply qc|apply qd|apply qe|(apply qq;(iterate 3 exact rfl))|(apply qa;exact rfl;apply kl;exact cAo)|(apply qa;exact rfl;apply ko;exact cAo)|(apply zl;(iterate 4 exact rfl))|(apply vu;(iterate 4 exact rfl))|(apply qz;(iterate 3 exact rfl))|(apply zh;(iterate 5 exact rfl))|apply qs|apply qr)
   exact ql rfl (zb rfl) ⟨rfl,_,rfl⟩
  ·rw [if_neg h0]
   have hz:0<x.fields.length:=List.length_pos_iff.2 h0
   repeat' (first|apply qk|apply qu|apply qc|apply qd|apply qe|(apply qq;(iterate 3 exact rfl))|(apply qa;exact rfl;apply kl;exact cAo)|(apply zl;(iterate 4 exact rfl))|(apply za;exact rfl;exact rfl)|(apply vu;(iterate 4 exact rfl))|(apply qz;(iterate 3 exact rfl))|(apply zh;(iterate 5 exact rfl))|apply qr)
   exact ql rfl (zb rfl) ⟨rfl,_,rfl⟩
 ·rw [if_neg h2]
  by_cases h1:x.kind=1
  ·rw [if_pos (.inl h1)]
   repeat' (first|apply qk|apply qu|apply qc|apply qd|apply qe|(apply qq;(iterate 3 exact rfl))|(apply qa;exact rfl;apply kl;exact cAo)|(apply qa;exact rfl;apply ko;exact cAo)|(apply vu;(iterate 4 exact rfl))|(apply qz;(iterate 3 exact rfl))|(apply zh;(iterate 5 exact rfl))|apply qs|apply qr|(apply qg;exact Tryz.call185;exact qia _ _ _ rfl hK hl))
   exact ql rfl (zb rfl) ⟨rfl,_,rfl⟩
  ·by_cases h3:x.kind=3
   ·rw [if_pos (.inr h3)]
    repeat' (first|apply qk|apply qu|apply qc|apply qd|apply qe|(apply qq;(iterate 3 exact rfl))|(apply qa;exact rfl;apply kl;exact cAo)|(apply qa;exact rfl;apply ko;exact cAo)|(apply vu;(iterate 4 exact rfl))|(apply qz;(iterate 3 exact rfl))|(apply zh;(iterate 5 exact rfl))|apply qr|(apply qg;exact Tryz.call185;exact qia _ _ _ rfl hK hl))
    exact ql rfl (zb rfl) ⟨rfl,_,rfl⟩
   ·rw [if_neg (by rintro (h|h) <;> contradiction)]
    repeat' (first|apply qk|apply qu|apply qc|apply qd|apply qe|(apply qq;(iterate 3 exact rfl))|(apply qa;exact rfl;apply ko;exact cAo)|(apply za;exact rfl;exact rfl)|(apply vu;(iterate 4 exact rfl))|(apply qz;(iterate 3 exact rfl))|(apply zh;(iterate 5 exact rfl))|apply qs|apply qr)
    exact ql rfl (zb rfl) ⟨rfl,_,rfl⟩
theorem q6u (n:Int) (st:List AObj):qn E 134 [.ifc 76 (Iv n)] st fun r st'=>r = .ifc 76 (Iv n)∧st'=st:=by
 refine q7 (qb1 (q6 _)) (qo Tryz.func134 rfl (Nat.le_of_ble_eq_true rfl) ?_)
 repeat' (first|apply qk|apply qc|apply qd|apply qj|apply qe|(apply qa;exact rfl;apply cd_f;exact cRa)|(apply za;exact rfl;exact rfl)|(apply zm;exact rfl;exact rfl)|apply qs|apply qr|(apply qg;exact Tryz.call85;exact qwf _ (st.length+0) _ (z8 rfl)))
 exact ql rfl (zb rfl) ⟨rfl,_,rfl⟩
theorem q5t (a n:Int) (st:List AObj):qn E 134 [qdq a n] st fun r st'=>r = .ifc 76 (Iv n)∧st'=st:=by
 refine q7 (qb1 (q6 _)) (qo Tryz.func134 rfl (Nat.le_of_ble_eq_true rfl) ?_)
 repeat' (first|apply qk|apply qc|apply qd|apply qj|apply qe|(apply qa;exact rfl;apply cd_t;exact cRa)|(apply za;exact rfl;exact rfl)|(apply zm;exact rfl;exact rfl)|(apply vm;(iterate 4 exact rfl))|(apply zn;(iterate 3 exact rfl))|(apply kh;exact rfl;exact rfl)|apply qr|(apply qg;exact Tryz.call85;exact qyf a n (st.length+0) _ (z8 rfl))|(apply j9;exact rfl;(focus first|assumption|(repeat' (first|assumption|exact wu|exact z8 rfl|apply jv|apply ka|omega|apply qba)));exact rfl;exact rfl))
 exact ql rfl (zb rfl) ⟨rfl,qrh fun j hj=>(qm2 (by omega)).trans (List.getElem?_append_left hj)⟩
theorem qkz (k:Int) (e:ErrV) (st:List AObj) (he:e.code≠0):qn E 74 [Iv k,errA e] st fun r st'=>r=errA (.at' k e.code)∧st'=st:=by
 refine q7 (vj _) (qo Tryz.func74 rfl (Nat.le_of_ble_eq_true rfl) ?_)
 cases e with
 |no=>exact absurd rfl he
 |num n=>
  repeat' (first|(apply qi3;(iterate 3 exact rfl))|apply qk|apply qc|apply qd|apply qj|apply qe|(apply za;exact rfl;exact rfl)|(apply jr;(iterate 3 exact rfl))|apply qr|(apply qg;exact Tryz.call134;exact q6u _ _))
  exact ql rfl (zb rfl) ⟨rfl,_,rfl⟩
 |at' a n=>
  repeat' (first|(apply qi3;(iterate 3 exact rfl))|apply qk|apply qc|apply qd|apply qj|apply qe|(apply za;exact rfl;exact rfl)|(apply jr;(iterate 3 exact rfl))|apply qr|(apply qg;exact Tryz.call134;exact q5t a n _))
  exact ql rfl (zb rfl) ⟨rfl,_,rfl⟩
structure EdB (x:qp):Prop where
 keys:KeyB x.fields
 len:x.fields.length<9223372036854775808
 id1 : -9223372036854775808≤x.id
 id2:x.id≤9223372036854775807
@[reducible] def jk (b : List qp) : AV := .sl 3 (b.map wy) none
theorem qkw (b:List qp) (st:List AObj) (e:ErrV) (h:eErr b=e) (hB:∀ x∈b,EdB x) (hl:b.length<9223372036854775808):qn E 71 [jk b] st fun r st'=>r=errA e∧st'=st:=by
 subst h
 refine q7 (vj _) (qo Tryz.func71 rfl (Nat.le_of_ble_eq_true rfl) ?_)
 have hml:(b.map wy).length=b.length:=by simp
 by_cases h1:b.length<1∨40<b.length
 ·have hc:eErr b = .num 1:=if_pos h1
  rw [hc]
  rcases h1 with h1|h1
  ·skip
   repeat' (first|apply qk|apply qc|apply qd|apply qj|apply qe|(apply qq;(iterate 3 exact rfl))|(apply ze;(iterate 4 exact rfl))|(apply wq;exact cAo)|(apply qi;exact rfl;apply y6;exact cAo)|(apply qa;exact rfl;apply cd_t;exact cRa)|(apply zl;(iterate 4 exact rfl))|(apply za;exact rfl;exact rfl)|apply qr)
   exact ql rfl (zb rfl) ⟨rfl,_,rfl⟩
  ·skip
   repeat' (first|apply qk|apply qc|apply qd|apply qj|apply qe|(apply qq;(iterate 3 exact rfl))|(apply ze;(iterate 4 exact rfl))|(apply wl;exact cAo)|(apply qi;exact rfl;apply yo;exact cAo)|(apply qa;exact rfl;apply kl;exact cAo)|(apply zl;(iterate 4 exact rfl))|(apply za;exact rfl;exact rfl)|apply qr)
   exact ql rfl (zb rfl) ⟨rfl,_,rfl⟩
 have hc:eErr b=qcp 0 b:=if_neg h1
 rw [hc]
 repeat' (first|apply qk|apply qu|apply qc|apply qd|apply qj|apply qe|(apply qq;(iterate 3 exact rfl))|(apply ze;(iterate 4 exact rfl))|(apply wl;exact cAo)|(apply qi;exact rfl;apply yo;exact cAo)|(apply qa;exact rfl;apply ko;exact cAo)|(apply zl;(iterate 4 exact rfl))|apply qs)
 refine qbo b (fun pre s=>(∀ x∈pre,(gErr x).code=0)∧StE [(15,jk b),(16,Iv b.length),(17,Iv pre.length)] st [] s) ⟨by simp,qfl ⟨rfl,congrArg (fun n:Nat=>Iv (n:Int)) hml,rfl,trivial⟩ rfl⟩ ?_ ?_
 ·rintro _ ⟨h3,t,ext,rfl⟩
  have he:=qlk 0 b [] h3
  rw [List.append_nil] at he
  rw [he]
  repeat' (first|apply qk|apply qc|apply qd|apply qe|(apply qq;(iterate 3 exact rfl))|(apply qa;exact rfl;apply ko;exact cAo)|apply jp|apply qr)
  exact ql rfl (zb rfl) ⟨rfl,x8 _ _ _ _⟩
 ·rintro pre a rest _ hr ⟨h3,t,ext,rfl⟩
  have hrlen:b.length=pre.length+(rest.length+1):=by rw [hr];simp
  have hget:(b.map wy)[pre.length]? = some (wy a):=by rw [hr];simp
  have hka:=hB a (by rw [hr];simp)
  by_cases ha:(gErr a).code=0
  ·have hn:=(qlv a).1 ha
   repeat' (first|apply qk|apply qu|apply qc|apply qd|apply qj|apply qe|(apply qq;(iterate 3 exact rfl))|(apply qa;exact rfl;apply kl;exact cAo)|(apply qa;exact rfl;apply cd_f;exact cRa)|(apply zv;exact rfl;exact rfl;exact q5 (by omega) (by omega))|(apply jj;exact rfl;exact rfl)|(apply zm;exact rfl;exact rfl)|(apply zn;(iterate 3 exact rfl))|(apply zh;(iterate 5 exact rfl))|(apply zf;(iterate 11 exact rfl))|apply qs|(apply qg;exact Tryz.call129;exact qqx _ _ _ hn hka.keys hka.len)|(apply z6 (n:=pre.length);(iterate 5 exact rfl);exact hget))
   refine⟨fun x hx=>?_,qdy ⟨rfl,rfl,qhm pre a,trivial⟩ rfl⟩
   rcases List.mem_append.1 hx with hx|hx
   ·exact h3 x hx
   ·simp at hx;subst hx;exact ha
  ·have he:=qlk 0 pre (a::rest) h3
   rw [← hr,qcp,if_neg ha,Nat.zero_add] at he
   rw [he]
   cases hg:gErr a with
   |no=>rw [hg] at ha;exact absurd rfl ha
   |num n=>
    have ha2:(ErrV.num n).code≠0:=by rw [← hg];exact ha
    repeat' (first|apply qk|apply qu|apply qc|apply qd|apply qj|apply qe|(apply qq;(iterate 3 exact rfl))|(apply qa;exact rfl;apply kl;exact cAo)|(apply qa;exact rfl;apply cd_t;exact cRa)|(apply ji;exact rfl;exact rfl)|(apply zm;exact rfl;exact rfl)|(apply zn;(iterate 3 exact rfl))|(apply zh;(iterate 5 exact rfl))|(apply zf;(iterate 11 exact rfl))|apply qs|apply qr|(apply qg;exact Tryz.call129;exact qqx _ _ _ hg hka.keys hka.len)|(apply qg;exact Tryz.call74;exact qkz _ (.num n) _ ha2)|(apply z6 (n:=pre.length);(iterate 5 exact rfl);exact hget))
    exact ql rfl (zb rfl) ⟨rfl,x8 _ _ _ _⟩
   |at' p n=>
    have ha2:(ErrV.at' p n).code≠0:=by rw [← hg];exact ha
    repeat' (first|apply qk|apply qu|apply qc|apply qd|apply qj|apply qe|(apply qq;(iterate 3 exact rfl))|(apply qa;exact rfl;apply kl;exact cAo)|(apply qa;exact rfl;apply cd_t;exact cRa)|(apply ji;exact rfl;exact rfl)|(apply zm;exact rfl;exact rfl)|(apply zn;(iterate 3 exact rfl))|(apply zh;(iterate 5 exact rfl))|(apply zf;(iterate 11 exact rfl))|apply qs|apply qr|(apply qg;exact Tryz.call129;exact qqx _ _ _ hg hka.keys hka.len)|(apply qg;exact Tryz.call74;exact qkz _ (.at' p n) _ ha2)|(apply z6 (n:=pre.length);(iterate 5 exact rfl);exact hget))
    exact ql rfl (zb rfl) ⟨rfl,x8 _ _ _ _⟩
def jo (x:qp):Bytes:=vi x++[10]++qab [32,32] (jy x.fields)
def encF (b:List qp):Bytes:=b.flatMap jo
theorem q5e (a b:List qp):encF (a++b)=encF a++encF b:=by simp [encF]
theorem q6o (x:qp):encF [x]=jo x:=by simp [encF]
theorem qqn:∀ (k:Nat) (r:List Fld),yp k r = .no↔∀ f∈r,jw f
 |k,[]=>by simp [yp]
 |k,f::r=>by
  unfold yp
  split
  ·rename_i h
   rw [qqn (k+1) r]
   have:=(qcg f).1 h
   simp [this]
  ·rename_i h
   have h2:¬ jw f:=fun g=>h ((qcg f).2 g)
   simp [h2]
theorem qox {fs:List Fld} (h:kp fs = .no):fs≠[]∧fs.length≤40∧∀ f∈fs,jw f:=by
 unfold kp at h
 split at h
 ·exact absurd h (by simp)
 ·split at h
  ·exact absurd h (by simp)
  ·exact⟨by assumption,by omega,(qqn _ _).1 h⟩
theorem qmq {x:qp} (h:gErr x = .no):x.fields.length≤40∧∀ f∈x.fields,jw f:=by
 unfold gErr at h
 split at h
 ·split at h
  ·rename_i h0;rw [h0];simp
  ·exact absurd h (by simp)
 ·split at h
  ·exact (qox h).2
  ·exact absurd h (by simp)
theorem qwo:∀ (k:Nat) (b:List qp),qcp k b = .no↔∀ x∈b,gErr x = .no
 |k,[]=>by simp [qcp]
 |k,x::b=>by
  unfold qcp
  split
  ·rename_i h
   rw [qwo (k+1) b]
   have:=(qlv x).1 h
   simp [this]
  ·rename_i h
   have h2:¬ gErr x = .no:=fun g=>h ((qlv x).2 g)
   simp [h2]
theorem qfu {b:List qp} (h:eErr b = .no):1≤b.length∧b.length≤40∧∀ x∈b,gErr x = .no:=by
 unfold eErr at h
 split at h
 ·exact absurd h (by simp)
 ·exact⟨by omega,by omega,(qwo _ _).1 h⟩
theorem q9j {fs:List Fld} (hl:fs.length≤40) (h:∀ f∈fs,jw f):q7b fs:=⟨by omega,fun f hf=>by
 have:=h f hf
 have h1:=this.1.2.1
 have h2:=this.2
 omega⟩
theorem qpi (xs:List FldV) (st:List AObj) (hl:xs.length≤40) (h:∀ f∈xs,jw f):qn E 135 [kv xs] st fun r st'=>r = .tu [Sv (jy xs),.v .nilIface]∧st'=st:=by
 have:=q9s xs st (q9j hl h)
 unfold qo4 at this
 have h0:=(qmg xs).2 h
 rw [if_pos h0,h0] at this
 exact this
theorem qmx (l:Bytes):(qab [32,32] l).length≤3 * l.length:=by
 unfold qab
 obtain⟨h1,h2⟩:=qf8 _ l (Nat.le_refl _)
 have:=qog [32,32] (zr l)
 simp only [List.length_cons,List.length_nil] at this
 omega
theorem qsw (x:qp) (h1 : -9223372036854775808≤x.id) (h2:x.id≤9223372036854775807):(vi x).length≤100:=by
 have hn:=Lib.itoa_length_le x.id h1 h2
 unfold vi qat
 split
 ·split
  ·simp;omega
  ·split
   ·simp;omega
   ·split <;> simp <;> omega
 ·simp
theorem q0p {x:qp} (hB:EdB x) (h:gErr x = .no):(jo x).length≤700000:=by
 obtain⟨hl,hg⟩:=qmq h
 have h1:=qip x.fields hg
 have h2:=qmx (jy x.fields)
 have h3:=qsw x hB.id1 hB.id2
 unfold jo
 simp only [List.length_append,List.length_cons,List.length_nil]
 omega
theorem qn0:∀ (b:List qp),(∀ x∈b,EdB x)→(∀ x∈b,gErr x = .no)→(encF b).length≤700000 * b.length
 | [],_,_=>by simp [encF]
 |x::r,hB,h=>by
  have ih:=qn0 r (fun y hy=>hB y (by simp [hy])) (fun y hy=>h y (by simp [hy]))
  have h1:=q0p (hB x (by simp)) (h x (by simp))
  have e:encF (x::r)=jo x++encF r:=by simp [encF]
  rw [e,List.length_append,List.length_cons]
  omega
set_option maxHeartbeats 2000000 in
theorem qr1 (b:List qp) (st:List AObj) (hB:∀ x∈b,EdB x) (he:eErr b = .no):qn E 75 [jk b] st fun r st'=>r = .tu [Sv (encF b),.v .nilIface]∧st'=st:=by
 refine q7 (va (q6 _) (q6 _)) (qo Tryz.func75 rfl (Nat.le_of_ble_eq_true rfl) ?_)
 have hml:(b.map wy).length=b.length:=by simp
 obtain⟨hb1,hb40,hg⟩:=qfu he
 have hel:=qn0 b hB hg
 repeat' (first|(apply qji;exact rfl)|apply qk|apply qu|apply qc|apply qd|apply qj|apply qe|(apply qa;exact rfl;apply cd_f;exact cRa)|(apply zl;(iterate 4 exact rfl))|(apply jj;exact rfl;exact rfl)|apply qs|(apply qg;exact Tryz.call71;exact qkw _ _ _ he hB (by omega)))
 refine qbo b (fun pre s=>∃ q,(q = .v (.pointer none)∨q = .bx (st.length+0) 0 0)∧StE [(5,.bx (st.length+0) 0 0),(15,jk b),(16,Iv b.length),(17,Iv pre.length)] st [bldO 0 q (encF pre) (st.length+1),.tip (encF pre).length 1 5] s) ⟨_,.inl rfl,qfl ⟨rfl,rfl,congrArg (fun n:Nat=>Iv (n:Int)) hml,rfl,trivial⟩ rfl⟩ ?_ ?_
 ·rintro _ ⟨q,hq,t,ext,rfl⟩
  repeat' (first|apply qk|apply qc|apply qd|apply qe|(apply qq;(iterate 3 exact rfl))|(apply qa;exact rfl;apply ko;exact cAo)|apply jp|apply qr|(refine qg Tryz.call139 (qjb st _ _ _ _ 0 1 0 _ _ rfl rfl rfl) ?_))
  exact ql rfl (v8 rfl) ⟨rfl,x8 _ _ _ _⟩
 ·rintro pre x rest _ hr ⟨q,hq,t,ext,rfl⟩
  have hlen:b.length=pre.length+(rest.length+1):=by rw [hr];simp
  have hget:(b.map wy)[pre.length]? = some (wy x):=by rw [hr];simp
  have hxb:=hB x (by rw [hr];simp)
  have hxg:=hg x (by rw [hr];simp)
  obtain⟨hfl,hfg⟩:=qmq hxg
  have hpl:=qn0 pre (fun y hy=>hB y (by rw [hr];simp [hy])) (fun y hy=>hg y (by rw [hr];simp [hy]))
  have hll:=qsw x hxb.id1 hxb.id2
  have hfo:=qip x.fields hfg
  have hin:=qmx (jy x.fields)
  repeat' (first|apply qk|apply qu|apply qc|apply qd|apply qj|apply qe|(apply zg;exact rfl;exact rfl)|(apply qq;(iterate 3 exact rfl))|(apply qa;exact rfl;apply kl;exact cAo)|(apply qa;exact rfl;apply cd_f;exact cRa)|(apply jq;exact rfl;exact rfl;exact cOs)|(apply jj;exact rfl;exact rfl)|(apply zm;exact rfl;exact rfl)|(apply qz;(iterate 3 exact rfl))|(apply zn;(iterate 3 exact rfl))|(apply zh;(iterate 5 exact rfl))|(apply zf;(iterate 11 exact rfl))|(apply js;(iterate 9 exact rfl))|apply qs|(apply qg;exact Tryz.call135;exact qpi _ _ hfl hfg)|(apply qg;exact Tryz.call137;exact q9f _ _ hxb.id1 hxb.id2)|(apply qg;exact Tryz.call138;exact q5z _ _ _ (by omega) (by decide))|(apply z6 (n:=pre.length);(iterate 5 exact rfl);exact hget))
  refine qg Tryz.call136 (qkh st _ _ _ _ 0 1 0 _ _ _ rfl rfl ?_ ?_ rfl) ?_;(exact hq);(simp only [List.length_append,List.length_cons,List.length_nil];omega)
  repeat' (first|apply qc|apply qd|apply qj|(apply zv;exact rfl;exact rfl;exact q5 (by omega) (by omega)))
  refine⟨_,.inr rfl,qdy ⟨rfl,rfl,rfl,?_,trivial⟩ ?_⟩
  ·rw [qfo pre x];rfl
  ·have e:encF (pre++[x])=encF pre++((vi x++[10])++qab [32,32] (jy x.fields)):=by rw [q5e,q6o];rfl
   rw [e];rfl
theorem qio (b:List qp) (st:List AObj) (e:ErrV) (hB:∀ x∈b,EdB x) (hl:b.length<9223372036854775808) (he:eErr b=e) (h0:e.code≠0):qn E 75 [jk b] st fun r st'=>r = .tu [Sv [],errA e]∧st'=st:=by
 refine q7 (va (q6 _) (vj _)) (qo Tryz.func75 rfl (Nat.le_of_ble_eq_true rfl) ?_)
 cases e with
 |no=>exact absurd rfl h0
 |num n=>
  repeat' (first|apply qk|apply qc|apply qd|apply qj|apply qe|(apply qa;exact rfl;apply cd_t;exact cRa)|(apply ji;exact rfl;exact rfl)|apply qr|(apply qg;exact Tryz.call71;exact qkw _ _ _ he hB hl))
  exact ql rfl (v8 rfl) ⟨rfl,_,rfl⟩
 |at' a n=>
  repeat' (first|apply qk|apply qc|apply qd|apply qj|apply qe|(apply qa;exact rfl;apply cd_t;exact cRa)|(apply ji;exact rfl;exact rfl)|apply qr|(apply qg;exact Tryz.call71;exact qkw _ _ _ he hB hl))
  exact ql rfl (v8 rfl) ⟨rfl,_,rfl⟩
end Go.Proofs.YtmoklbacdkmkaaaGreatDoor
namespace Go.Av
open Go Go.RowKit
theorem qos {b:Nat} {st l:List AObj} {sz:Nat} {T:TypeId} {xs:List AV} {c:AV} (h:TipO b st sz T xs c):TipO b (st++l) sz T xs c:=by
 rcases h with h|h
 ·exact .inl (qhx h)
 ·exact .inr h
theorem qyp {b:Nat} {st st':List AObj} {sz:Nat} {T:TypeId} {xs:List AV} {c:AV} (hs:∀ (t m sz:Nat) (T:TypeId),st[t]? = some (AObj.tip m sz T)→st'[t]? = st[t]?) (h:TipO b st sz T xs c):TipO b st' sz T xs c:=by
 rcases h with (h | ⟨t,h1,h2,h3⟩)|h
 ·exact .inl (.inl h)
 ·exact .inl (.inr ⟨t,h1,(hs t _ _ _ h2).trans h2,h3⟩)
 ·exact .inr h
end Go.Av
namespace Go.Proofs.YtmoklbacdkmkaaaGreatDoor
open Go Go.Av Go.RowKit Go.Proofs Go.Pl
theorem qfk {st l:List AObj}:st.length≤(st++l).length:=by simp
theorem qr2 {b o:Nat} {st:List AObj} {sz:Nat} {T:TypeId} {xs:List AV} {c:AV} {x:AObj} (h:TipO b st sz T xs c) (hn:qig st[o]?):TipO b (st.set o x) sz T xs c:=
 qyp (fun t m sz T ht=>List.getElem?_set_ne (fun e=>by subst e;exact hn _ _ _ ht)) h
structure OutI (st:List AObj) (S:List AObj):Prop where
 low:∀ j,j<st.length→S[j]? = st[j]?
 len:st.length≤S.length
theorem OutI.pre {st S l:List AObj} (h:OutI st S):OutI st (S++l):=⟨fun j hj=>(List.getElem?_append_left (by have:=h.len;omega)).trans (h.low j hj),by have:=h.len;simp;omega⟩
theorem OutI.set {st S:List AObj} {o:Nat} {x:AObj} (h:OutI st S) (ho:st.length≤o):OutI st (S.set o x):=⟨fun j hj=>(qm2 (by omega)).trans (h.low j hj),by have:=h.len;simp;omega⟩
theorem OutI.fr {st S S':List AObj} {t:Nat} (h:OutI st S) (hf:Fr S S' t) (ht:st.length≤t):OutI st S':=⟨fun j hj=>(hf.same j (by omega) (by have:=h.len;omega)).trans (h.low j hj),Nat.le_trans h.len hf.len⟩
theorem OutI.ext {st S:List AObj} (h:OutI st S):∃ ext,S=st++ext:=qrh h.low
theorem qbz {E:Env} {rd:Option Nat} {N:Nat} {ops:Array Oper} {K:AS→Prop} {s:AS} {rest:List Oper} {d:Option Tmp} {T:TypeId} {p:String} {af:Array Edge} {t e:TypeId} {len sz:Nat} {agg:Bool} {parts:Array (Nat×Operand)} {zs cs:List AV} {st:List AObj} (hst:s.st=st) (hu:E.P.underlying t=some (.slice e)) (ht:tyOf E.P e=some (sz,agg)) (hz:qfd E.P e len=some zs)
  (hf:qb6 (fun i=>some (i * sz,sz)) zs (vk N s parts)=some cs) (hsz:Nat.ble (len * sz) 16777216=true)
  (h:AOps E rd N ops rest K (AS.put ⟨s.t,st++[.cells 0 e cs],s.df⟩ d (.os st.length 0 0 len len))):AOps E rd N ops (⟨d,.buildSlice t len parts,T,p,af,none⟩::rest) K s:=
 qah (loc:=[]) (by rw [hst];simp) hu ht hz hf hsz h
theorem qjf (x:qp):qk3 (wy x):=fun y hy=>by
 simp only [AV.cells,List.mem_cons,List.not_mem_nil,or_false] at hy
 rcases hy with rfl|rfl|rfl
 ·exact q6 _
 ·exact q6 _
 ·exact qdk _
theorem qje (b:List qp):Pure (jk b):=qdd fun x hx=>by
 obtain⟨f,_,rfl⟩:=List.mem_map.1 hx
 exact qjf f
theorem q5f {α β : Type} (g : α→β) (l:List α) (a : α):(l++[a]).map g=l.map g++[g a]:=by simp
def tryB (k:Int) (l:Bytes):Option Int:=if qat k <+: l then (match Lib.atoiAll (l.drop (qat k).length) with
 | .ok n=>some n
 | _=>none) else none
def begE (l:Bytes):Option (Int×Int):=match tryB 1 l with
 |some n=>some (1,n)
 |none=>match tryB 2 l with
  |some n=>some (2,n)
  |none=>match tryB 3 l with
   |some n=>some (3,n)
   |none=>none
def begA:Option (Int×Int)→AV
 |some (k,n)=>.tu [wy ⟨k,n,[]⟩,Bv true]
 |none=>.tu [wy ⟨0,0,[]⟩,Bv false]
theorem q2a (x:Option (Int×Int)):Pure (begA x):=by
 rcases x with _ | ⟨k,n⟩
 ·exact va (qgo (qjf _)) (q6 _)
 ·exact va (qgo (qjf _)) (q6 _)
theorem qsp (k n:Int):Weak (.ag [Iv k,Iv n,zp]) (wy ⟨k,n,[]⟩):=
 q87 rfl fun i x y hx hy=>by
  match i with
  | 0=>simp at hx hy;subst hx;subst hy;exact qaq _
  | 1=>simp at hx hy;subst hx;subst hy;exact qaq _
  | 2=>simp at hx hy;subst hx;subst hy;exact qfc 2
  |i+3=>simp at hx
theorem q0h (l m:Bytes) (st:List AObj) (h:m <+: l):qn E 217 [Sv l,Sv m] st fun r st'=>r = .tu [Sv (l.drop m.length),Bv true]∧st'=st:=by
 have:=qdt l m st
 rw [qca h,(w6 l m).2 h] at this
 exact this
theorem q0z (l m d:Bytes) (st:List AObj) (h:m <+: l) (hd:l.drop m.length=d):qn E 217 [Sv l,Sv m] st fun r st'=>r = .tu [Sv d,Bv true]∧st'=st:=by
 subst hd
 exact q0h l m st h
theorem q1a (l m:Bytes) (st:List AObj) (h:¬ m <+: l):qn E 217 [Sv l,Sv m] st fun r st'=>r = .tu [Sv l,Bv false]∧st'=st:=by
 have:=qdt l m st
 have hf:Lib.hasPrefix l m=false:=by
  cases hb:Lib.hasPrefix l m with
  |false=>rfl
  |true=>exact absurd ((w6 l m).1 hb) h
 have ht:Lib.trimPrefix l m=l:=by
  unfold Lib.trimPrefix
  rw [if_neg (by simp [hf])]
 rw [ht,hf] at this
 exact this
theorem q73 {l:Bytes} {k:Nat} {n:Int} (h1:1≤k) (h3:k≤3) (h:∀ j:Nat,1≤j→j<k→tryB j l=none) (hk:tryB k l=some n):begE l=some ((k:Int),n):=by
 have:k=1∨k=2∨k=3:=by omega
 rcases this with rfl|rfl|rfl
 ·have hk1:tryB 1 l=some n:=hk
  simp [begE,hk1]
 ·have e1:tryB 1 l=none:=h 1 (by omega) (by omega)
  have hk1:tryB 2 l=some n:=hk
  simp [begE,e1,hk1]
 ·have e1:tryB 1 l=none:=h 1 (by omega) (by omega)
  have e2:tryB 2 l=none:=h 2 (by omega) (by omega)
  have hk1:tryB 3 l=some n:=hk
  simp [begE,e1,e2,hk1]
theorem q2n {l:Bytes} (h:∀ j:Nat,1≤j→j<4→tryB j l=none):begE l=none:=by
 have e1:tryB 1 l=none:=h 1 (by omega) (by omega)
 have e2:tryB 2 l=none:=h 2 (by omega) (by omega)
 have e3:tryB 3 l=none:=h 3 (by omega) (by omega)
 simp [begE,e1,e2,e3]
theorem q3k {k:Nat} (h1:1≤k) (h3:k≤3):qap (k:Int)≠[]∧([32]++qap (k:Int))++[32]=qat (k:Int)∧(qap (k:Int)).length≤10:=by
 have:k=1∨k=2∨k=3:=by omega
 rcases this with rfl|rfl|rfl <;> decide
set_option maxHeartbeats 2000000 in
theorem q7y (l:Bytes) (st:List AObj) (hl:l.length<1000000):qn E 176 [Sv l] st fun r st'=>r=begA (begE l)∧st'=st:=by
 refine q7 (q2a _) (qo Tryz.func176 rfl (Nat.le_of_ble_eq_true rfl) ?_)
 repeat' (first|apply qk|apply qu|apply qc|apply qd|apply qe|(apply zm;exact rfl;exact rfl))
 refine xt (fun (k:Nat) s=>1≤k∧k≤4∧(∀ j:Nat,1≤j→j<k→tryB j l=none)∧StE [(0,Sv l),(2,.bx (st.length+0) 0 0),(4,Iv k)] st [.cells 0 97 [Iv 0,Iv 0,zp]] s) (fun k=>4 - k) 1 ⟨by omega,by omega,fun j h1 h2=>by omega,qfl ⟨rfl,rfl,rfl,trivial⟩ rfl⟩ ?_
 rintro k _ ⟨hk1,hk4,hno,t,ext,rfl⟩
 by_cases h4:k=4
 ·subst h4
  have hw:qap ((4:Nat):Int)=[]:=by decide
  rw [q2n hno]
  repeat' (first|apply qk|apply qc|apply qd|apply qj|apply qe|(apply jb;(iterate 3 exact rfl))|(apply qa;exact rfl;apply cd_f;exact cRa)|(apply ve;(iterate 11 exact rfl))|(apply jr;(iterate 3 exact rfl))|apply jp|apply qr|(apply qg;exact Tryz.call191;exact qqj _ _))
  refine ql rfl (wn (qdv rfl rfl rfl rfl rfl rfl) (qej (qsp 0 0) (qaq _))) ⟨rfl,x8 _ _ _ _⟩
 ·obtain⟨hw,hm,hwl⟩:=q3k hk1 (by omega)
  by_cases hp:qat (k:Int) <+: l
  ·have hp':([32]++qap (k:Int))++[32] <+: l:=by rw [hm];exact hp
   obtain⟨d,hd0⟩:∃ d,d=l.drop (qat (k:Int)).length:=⟨_,rfl⟩
   have hd:l.drop ((([32]:Bytes)++qap (k:Int))++[32]).length=d:=by rw [hm,hd0]
   have hdl:d.length<1000000:=by rw [hd0,List.length_drop];omega
   repeat' (first|apply qk|apply qu|apply qc|apply qd|apply qj|apply qe|(apply zg;exact rfl;exact rfl)|(apply jb;(iterate 3 exact rfl))|(apply qa;exact rfl;apply kl;exact cAo)|(apply jq;exact rfl;exact rfl;exact cOs)|apply qs|(apply qg;exact Tryz.call191;exact qqj _ _)|(apply qg;exact Tryz.call217;exact q0z _ _ _ _ hp' hd))
   refine qeq Tryz.call97 ((ql8 d _ (by omega)).mono ?_)
   rintro _ _ ⟨rfl,n,x,rfl,hx⟩
   rw [hd0] at hx
   rcases x with _ | ⟨t',y⟩
   ·simp only at hx
    have htr:tryB (k:Int) l=some n:=by unfold tryB;rw [if_pos hp,hx]
    rw [q73 hk1 (by omega) hno htr]
    repeat' (first|apply qk|apply qc|apply qd|apply qj|apply qe|(apply zg;exact rfl;exact rfl)|(apply ze;(iterate 4 exact rfl))|(apply x6;exact cRa)|(apply qi;exact rfl;apply pk_t;exact cRa)|(apply qa;exact rfl;apply cd_t;exact cRa)|(apply wz;exact rfl;exact rfl)|(apply ve;(iterate 11 exact rfl))|(apply jr;(iterate 3 exact rfl))|apply qr)
    refine ql rfl (wn (qdv rfl rfl rfl rfl rfl rfl) (qej (qsp k n) (qaq _))) ⟨rfl,x8 _ _ _ _⟩
   ·simp only at hx
    have htr:tryB (k:Int) l=none:=by
     unfold tryB
     rw [if_pos hp]
     split
     ·rename_i v hv;exact absurd hv (hx v)
     ·rfl
    repeat' (first|apply qk|apply qc|apply qd|apply qj|apply qe|(apply zg;exact rfl;exact rfl)|(apply ze;(iterate 4 exact rfl))|(apply x6;exact cRa)|(apply qi;exact rfl;apply pk_t;exact cRa)|(apply qa;exact rfl;apply cd_f;exact cRa)|(apply zv;exact rfl;exact rfl;exact q5 (by omega) (by omega))|(apply wx;exact rfl;exact rfl)|apply qs)
    refine⟨k+1,⟨by omega,by omega,fun j h1 h2=>?_,qdy ⟨rfl,rfl,rfl,trivial⟩ rfl⟩,by omega⟩
    by_cases hjk:j=k
    ·subst hjk;exact htr
    ·exact hno j h1 (by omega)
  ·have hp':¬ ([32]++qap (k:Int))++[32] <+: l:=by rw [hm];exact hp
   have htr:tryB (k:Int) l=none:=by unfold tryB;rw [if_neg hp]
   repeat' (first|apply qk|apply qu|apply qc|apply qd|apply qj|apply qe|(apply zg;exact rfl;exact rfl)|(apply jb;(iterate 3 exact rfl))|(apply qa;exact rfl;apply kl;exact cAo)|(apply jq;exact rfl;exact rfl;exact cOs)|apply qs|(apply qg;exact Tryz.call191;exact qqj _ _)|(apply qg;exact Tryz.call217;exact q1a _ _ _ hp'))
   refine qeq Tryz.call97 ((ql8 l _ (by omega)).mono ?_)
   rintro _ _ ⟨rfl,n,x,rfl,hx⟩
   rcases x with _ | ⟨t',y⟩
   all_goals
    repeat' (first|apply qk|apply qc|apply qd|apply qj|apply qe|(apply zg;exact rfl;exact rfl)|(apply ze;(iterate 4 exact rfl))|(apply xe;exact cRa)|(apply qi;exact rfl;apply pk_f;exact cRa)|(apply qa;exact rfl;apply cd_f;exact cRa)|(apply zv;exact rfl;exact rfl;exact q5 (by omega) (by omega))|apply qs)
    refine⟨k+1,⟨by omega,by omega,fun j h1 h2=>?_,qdy ⟨rfl,rfl,rfl,trivial⟩ rfl⟩,by omega⟩
    by_cases hjk:j=k
    ·subst hjk;exact htr
    ·exact hno j h1 (by omega)
def recsF (its:List j6):List (List Fld):=(its.filter fun x=>decide (x.kind=3)).map j6.fields
@[reducible] def q7h (ls : List (List Fld)) : AV := .sl 1 (ls.map kv) none
theorem qz9 (ls:List (List Fld)):Pure (q7h ls):=qdd fun x hx=>by
 obtain⟨f,_,rfl⟩:=List.mem_map.1 hx
 intro y hy
 simp only [AV.cells,List.mem_cons,List.not_mem_nil,or_false] at hy
 subst hy
 exact qdk _
theorem qxk (l:List j6) (x:j6) (h:x.kind=3):recsF (l++[x])=recsF l++[x.fields]:=by simp [recsF,h]
theorem qxt (l:List j6) (x:j6) (h:¬ x.kind=3):recsF (l++[x])=recsF l:=by simp [recsF,h]
theorem q8g {b t1:Nat} {st st':List AObj} {sz:Nat} {T:TypeId} {xs:List AV} {c c0:AV} {sz0:Nat} {xs0:List AV} (hf:Fr st st' t1) (hid:c0 = .sl sz0 xs0 (some t1)∨st.length≤t1) (h0:∀ t,c0≠.sl sz0 xs0 (some t)) (h:TipO b st sz T xs c):TipO b st' sz T xs c:=
 qyp (fun t m sz T ht=>hf.same t (fun e=>by
  subst e
  rcases hid with hid|hid
  ·exact h0 _ hid
  ·have:=lt_of_getElem? ht;omega) (lt_of_getElem? ht)) h
theorem q43 {b t1:Nat} {st st':List AObj} {sz:Nat} {T:TypeId} {xs:List AV} {c:AV} {sz0:Nat} {xs0:List AV} {o v f l k:Nat} (hf:Fr st st' t1) (hid:AV.os o v f l k = .sl sz0 xs0 (some t1)∨st.length≤t1) (h:TipO b st sz T xs c):TipO b st' sz T xs c:=
 q8g hf hid (by simp) h
set_option maxHeartbeats 2000000 in
theorem q39 (its:List j6) (st:List AObj) (hl:its.length<1000000) (hf:∀ x∈its,x.fields.length<1000000):qn E 222 [qce its] st fun r st'=>r=q7h (recsF its)∧st'=st:=by
 refine q7 (qz9 _) (qo Tryz.func222 rfl (Nat.le_of_ble_eq_true rfl) ?_)
 have hml:(its.map yy).length=its.length:=by simp
 rw [List.append_nil]
 repeat' (first|apply qk|apply qu|apply qc|apply qd|apply qj|apply qe|(apply zl;(iterate 4 exact rfl)))
 refine qbo its (fun pre s=>∃ c S,OutI st S∧TipO st.length S 1 95 ((recsF pre).map kv) c∧StA [(3,c),(6,qce its),(7,Iv its.length),(8,Iv pre.length)] S [] s) ⟨_,st,⟨fun _ _=>rfl,Nat.le_refl _⟩,qw2 ..,ww ⟨rfl,rfl,congrArg (fun n:Nat=>Iv (n:Int)) hml,rfl,trivial⟩⟩ ?_ ?_
 ·rintro _ ⟨c,S,hO,hT,t,rfl⟩
  repeat' (first|apply qk|apply qc|apply qd|apply qj|apply qe|(apply qq;(iterate 3 exact rfl))|(apply qa;exact rfl;apply ko;exact cAo)|apply jp|apply qr)
  exact ql rfl (wn (zb rfl) (qkj hT)) ⟨rfl,hO.ext⟩
 ·rintro pre x rest _ hr ⟨c,S,hO,hT,t,rfl⟩
  have hlen:its.length=pre.length+(rest.length+1):=by rw [hr];simp
  have hget:(its.map yy)[pre.length]? = some (yy x):=by rw [hr];simp
  have hxf:=hf x (by rw [hr];simp)
  have hpl:(recsF pre).length≤pre.length:=by unfold recsF;rw [List.length_map];exact List.length_filter_le _ _
  have hSl:=hO.len
  have hO1:OutI st ((S++[AObj.cells 0 137 [Iv 0,Sv [],zp]]).set S.length (.cells 0 137 (yy x).cells)):=hO.pre.set hSl
  have hT1:TipO st.length ((S++[AObj.cells 0 137 [Iv 0,Sv [],zp]]).set S.length (.cells 0 137 (yy x).cells)) 1 95 ((recsF pre).map kv) c:=qr2 (qos hT) (qag wu)
  have hob:((S++[AObj.cells 0 137 [Iv 0,Sv [],zp]]).set S.length (.cells 0 137 (yy x).cells))[S.length]? = some (.cells 0 137 (yy x).cells):=jv wu
  by_cases h3:x.kind=3
  ·skip
   repeat' (first|(apply qbz (st:=(S++[AObj.cells 0 137 [Iv 0,Sv [],zp]]).set S.length (.cells 0 137 (yy x).cells));(iterate 6 exact rfl))|(apply q29 19 rfl (qkj g1);apply js;(iterate 9 exact rfl))|apply qk|apply qu|apply qc|apply qd|apply qj|apply qe|(apply qq;(iterate 3 exact rfl))|(apply qa;exact rfl;apply kl;exact cAo)|(apply zv;exact rfl;exact rfl;exact q5 (by omega) (by omega))|(apply qz;(iterate 3 exact rfl))|(apply zn;(iterate 3 exact rfl))|apply qs|(apply j9;exact rfl;exact hob;exact rfl;exact rfl)|(apply j9;exact rfl;exact qba hob;exact rfl;exact rfl)|(apply qjh (st:=S);exact rfl;exact rfl)|(apply xw;exact rfl;exact rfl;(focus first|assumption|(repeat' (first|assumption|exact wu|exact z8 rfl|apply jv|apply ka|omega|apply qba)));(iterate 6 exact rfl))|(apply z6 (n:=pre.length);(iterate 5 exact rfl);exact hget)|(apply qid (b:=st.length) (xs:=[]) (ys:=x.fields.map fldA) (bytes:=32);(iterate 5 exact rfl);exact⟨⟨_,_,rfl,rfl,rfl,rfl,rfl⟩⟩;exact qzf _ _ _ _ _ _ _;(exact Nat.le_trans hO1.len qfk);(first|exact rfl|exact qb2 fun _=>rfl);((simp [maxLen];omega));((simp;omega));intro c1 S1 t1 g1 g2 g3 g4)|(apply qid (b:=st.length) (xs:=(recsF pre).map kv) (ys:=[kv x.fields]) (bytes:=24);(iterate 5 exact rfl);exact⟨⟨_,_,rfl,rfl,rfl,rfl,rfl⟩⟩;exact q43 g2 g4 (qos hT1);(exact (hO1.pre.fr g2 g3).len);(first|exact rfl|exact qb2 fun _=>rfl);((simp [maxLen];omega));((simp;omega));intro c2 S2 t2 k1 k2 k3 k4))
   exact⟨c2,S2,(hO1.pre.fr g2 g3).fr k2 k3,by rw [qxk _ _ h3,q5f];exact k1,ww ⟨rfl,rfl,rfl,qhm pre x,trivial⟩⟩
  ·skip
   repeat' (first|apply qk|apply qu|apply qc|apply qd|apply qj|(apply qq;(iterate 3 exact rfl))|(apply qa;exact rfl;apply kl;exact cAo)|(apply qa;exact rfl;apply ko;exact cAo)|(apply zv;exact rfl;exact rfl;exact q5 (by omega) (by omega))|(apply qz;(iterate 3 exact rfl))|(apply zn;(iterate 3 exact rfl))|apply qs|(apply j9;exact rfl;exact hob;exact rfl;exact rfl)|(apply qjh (st:=S);exact rfl;exact rfl)|(apply xw;exact rfl;exact rfl;(focus first|assumption|(repeat' (first|assumption|exact wu|exact z8 rfl|apply jv|apply ka|omega|apply qba)));(iterate 6 exact rfl))|(apply z6 (n:=pre.length);(iterate 5 exact rfl);exact hget))
   exact⟨c,_,hO1,by rw [qxt _ _ h3];exact hT1,ww ⟨rfl,rfl,rfl,qhm pre x,trivial⟩⟩
end Go.Proofs.YtmoklbacdkmkaaaGreatDoor
namespace Go.Pl
open Go Go.Proofs Go.Proofs.YtmoklbacdkmkaaaGreatDoor
def GF (fs:List Fld):Prop:=fs.length≤40∧∀ f∈fs,jw f
structure PI (p:PSt):Prop where
 items:∀ x∈p.items,GF x.fields∧(x.kind=3↔x.fields≠[])
 fields:GF p.fields
 full:p.lines≠[]→p.full=false→p.fields.length<40
theorem qxg {ls:List Bytes} (h:(jm ls).2=0):jw (jm ls).1:=by
 unfold jm at h ⊢
 split at h
 ·split at h
  ·simp at h
  ·rename_i h1 h2
   rw [if_pos h1,if_neg h2]
   exact⟨(ql6.1 h1.2.1).2.2,Nat.le_of_not_lt h2⟩
 ·simp at h
theorem pi0:PI p0:=⟨by simp [p0],⟨by simp [p0],by simp [p0]⟩,by simp [p0]⟩
theorem PI.flush {p:PSt} (h:PI p):PI (jl p).2:=by
 unfold jl
 split
 ·exact h
 ·rename_i hl
  split
  ·exact h
  ·rename_i hu
   split
   ·exact h
   ·rename_i hf
    have hlt:=h.full hl (by simpa using hf)
    refine⟨h.items,⟨by simp;omega,fun f hm=>?_⟩,by simp⟩
    rcases List.mem_append.1 hm with hm|hm
    ·exact h.fields.2 f hm
    ·simp at hm;subst hm;exact qxg (by simpa using hu)
theorem PI.close {p:PSt} (h:PI p):PI (xz p):=by
 unfold xz
 split
 ·exact⟨h.items,⟨by simp,by simp⟩,fun h1 h2=>by simp⟩
 ·refine⟨fun x hx=>?_,⟨by simp,by simp⟩,fun h1 h2=>by simp⟩
  rcases List.mem_append.1 hx with hx|hx
  ·exact h.items x hx
  ·simp at hx
   subst hx
   refine⟨h.fields,?_⟩
   simp only
   split
   ·rename_i h0;simp [h0]
   ·rename_i h0;simp [h0]
theorem PI.end' {p:PSt} (h:PI p):PI (endP p).2:=by
 unfold endP
 split
 ·exact h
 ·exact h.flush.close
theorem PI.lines' {p:PSt} (h:PI p) (hl:p.lines≠[]) (text:Bytes):PI { p with lines:=p.lines++[text] }:=⟨h.items,h.fields,fun _ hf=>h.full hl hf⟩
theorem PI.begin' {p:PSt} (h:PI p) (no:Int) (text:Bytes):PI (j7 p no text):=by
 refine⟨h.items,h.fields,fun _ hf=>?_⟩
 have:=h.fields.1
 simp only [j7,decide_eq_false_iff_not,not_or] at hf ⊢
 omega
theorem PI.ahead {p:PSt} (h:PI p) (no:Int) (text:Bytes) (ended:Bool) (kind:Int):PI (je p no text ended kind).2:=by
 unfold je
 split
 ·split
  ·exact h
  ·rename_i hl
   split
   ·exact h.lines' hl text
   ·exact (h.lines' hl text).flush
 ·split
  ·exact h.end'
  ·exact h.flush
theorem PI.take {p:PSt} (h:PI p) (no:Int) (text:Bytes) (ended:Bool):PI (wb p no text ended).2:=by
 have ha:=h.ahead no text ended (qy text)
 unfold wb
 split
 ·exact h
 ·split
  ·exact h
  ·split
   ·refine⟨fun x hx=>?_,ha.fields,ha.full⟩
    rcases List.mem_append.1 hx with hx|hx
    ·exact ha.items x hx
    ·simp at hx;subst hx;exact⟨⟨by simp,by simp⟩,by simp⟩
   ·split
    ·have hb:=ha.begin' no text
     exact⟨hb.items,hb.fields,hb.full⟩
    ·exact⟨ha.items,ha.fields,ha.full⟩
theorem PI.run:∀ (ls:List (Bytes×Bool)) (k:Nat) (p:PSt),PI p→PI (runL k ls p).2
 | [],k,p,h=>h.end'
 |(t,e)::r,k,p,h=>by
  unfold runL
  split
  ·exact h
  ·exact PI.run r (k+1) _ (h.take k t e)
theorem qnl (text:Bytes):∀ x∈(j8 text).2,GF x.fields∧(x.kind=3↔x.fields≠[]):=by
 unfold j8
 split
 ·simp
 ·exact (PI.run _ 0 _ pi0).items
theorem qu5 (p:PSt):(xz p).items.length≤p.items.length+1:=by
 unfold xz
 split <;> simp
theorem qho (p:PSt):(jl p).2.items=p.items:=by
 unfold jl
 split
 ·rfl
 ·split
  ·rfl
  ·split <;> rfl
theorem qqr (p:PSt):(endP p).2.items.length≤p.items.length+1:=by
 unfold endP
 split
 ·simp
 ·have:=qu5 (jl p).2
  rw [qho] at this
  exact this
theorem quw (p:PSt) (no:Int) (text:Bytes) (ended:Bool) (kind:Int):(je p no text ended kind).2.items.length≤p.items.length+1:=by
 unfold je
 split
 ·split
  ·simp
  ·split
   ·simp
   ·rw [qho];simp
 ·split
  ·exact qqr p
  ·rw [qho];simp
theorem qxb (p:PSt) (no:Int) (text:Bytes) (ended:Bool):(wb p no text ended).2.items.length≤p.items.length+2:=by
 have ha:=quw p no text ended (qy text)
 unfold wb
 split
 ·simp
 ·split
  ·simp
  ·split
   ·simp;omega
   ·split
    ·simp [j7];omega
    ·simp;omega
theorem qhf:∀ (ls:List (Bytes×Bool)) (k:Nat) (p:PSt),(runL k ls p).2.items.length≤p.items.length+2 * ls.length+1
 | [],k,p=>by have:=qqr p;simp [runL];omega
 |(t,e)::r,k,p=>by
  unfold runL
  split
  ·simp;omega
  ·have h1:=qhf r (k+1) (wb p k t e).2
   have h2:=qxb p k t e
   simp only [List.length_cons]
   omega
theorem q4s (text:Bytes):(j8 text).2.length≤2 * text.length+1:=by
 unfold j8
 split
 ·simp
 ·have h1:=qhf (zr text) 0 p0
  have h2:=(qf8 _ text (Nat.le_refl _)).2
  have h3:p0.items.length=0:=rfl
  simp only
  omega
theorem qzs (by' l:Bytes):(kj by' l).1.length≤l.length:=by
 unfold kj
 split
 ·have h:=(qf8 _ l (Nat.le_refl _)).1
  have key:∀ (ls:List (Bytes×Bool)),(ls.flatMap fun x=>x.1.drop by'.length++xo x.2).length≤lsum ls:=by
   intro ls
   induction ls with
   |nil=>simp [lsum]
   |cons x r ih=>
    simp only [lsum,List.flatMap_cons,List.length_append,List.map_cons,List.sum_cons,List.length_drop] at ih ⊢
    omega
  have:=key (zr l)
  simp only
  omega
 ·simp
end Go.Pl
namespace Go.Proofs.YtmoklbacdkmkaaaGreatDoor
open Go Go.Av Go.RowKit Go.Proofs Go.Pl
theorem qj8 (text:Bytes) (st:List AObj) (hl:text.length≤60000) (h:(j8 text).1=none):qn E 58 [Sv text] st fun r st'=>r = .tu [qce (j8 text).2,.v .nilIface]∧st'=st:=by
 have:=qoi text st hl
 unfold qcy at this
 rw [h] at this
 exact this
theorem qw7 (text:Bytes) (st:List AObj) (a n:Int) (hl:text.length≤60000) (h:(j8 text).1=some (a,n)):qn E 58 [Sv text] st fun r st'=>r = .tu [qce (j8 text).2,.ifc 101 (.pp [Iv a,.ifc 76 (Iv n)])]∧st'=st:=by
 have:=qoi text st hl
 unfold qcy at this
 rw [h] at this
 exact this
def qcw (text:Bytes):List Fld×Bool:=
 if (kj [32,32] text).2=false∨(j8 (kj [32,32] text).1).1≠none then ([],false)
 else match recsF (j8 (kj [32,32] text).1).2 with
  | []=>([],decide ((kj [32,32] text).1=[]))
  |f::_=>(f,decide ((j8 (kj [32,32] text).1).2.length=1))
theorem za0 {a b:List Fld} {c d:Bool} (h1:a=b) (h2:c=d):AV.tu [kv a,Bv c]=AV.tu [kv b,Bv d]:=by rw [h1,h2]
theorem q1b {its:List j6} (h:∀ x∈its,GF x.fields∧(x.kind=3↔x.fields≠[])):∀ fs∈recsF its,GF fs∧fs≠[]:=fun fs hfs=>by
 obtain⟨x,hx,rfl⟩:=List.mem_map.1 hfs
 obtain⟨hx1,hx2⟩:=List.mem_filter.1 hx
 have:=h x hx1
 exact⟨this.1,this.2.1 (by simpa using hx2)⟩
set_option maxHeartbeats 2000000 in
theorem q6t (text:Bytes) (st:List AObj) (hl:text.length≤60000):qn E 177 [Sv text] st fun r st'=>r = .tu [kv (qcw text).1,Bv (qcw text).2]∧st'=st:=by
 refine q7 (va (qdk _) (q6 _)) (qo Tryz.func177 rfl (Nat.le_of_ble_eq_true rfl) ?_)
 have hdl:=qzs [32,32] text
 have hpl:=q4s (kj [32,32] text).1
 have hit:=qnl (kj [32,32] text).1
 unfold qcw
 obtain⟨d,hd⟩:∃ d,d=kj [32,32] text:=⟨_,rfl⟩
 have hdc:∀ st,qn E 221 [Sv text,Sv [32,32]] st fun r st'=>r = .tu [Sv d.1,Bv d.2]∧st'=st:=fun st=>by rw [hd];exact qt1 text [32,32] st (by omega)
 rw [← hd] at hdl hpl hit ⊢
 obtain⟨b,ok⟩:=d
 simp only at hdl hpl hit hdc ⊢
 cases hp:(j8 b).1 with
 |some e=>
  obtain⟨a,n⟩:=e
  rw [if_pos (.inr (by simp))]
  cases ok
  all_goals
   repeat' (first|apply qk|apply qc|apply qd|apply qj|apply qe|(apply zg;exact rfl;exact rfl)|(apply jc;exact rfl)|(apply ze;(iterate 4 exact rfl))|(apply ym;exact cRa)|(apply yg;exact cRa)|(apply qi;exact rfl;apply qff;exact cRa)|(apply qi;exact rfl;apply qd5;exact cRa)|(apply qa;exact rfl;apply cd_t;exact cRa)|(apply ji;exact rfl;exact rfl)|apply qr|(apply qg;exact Tryz.call221;exact hdc _)|(apply qg;exact Tryz.call58;exact qw7 _ _ _ _ (by omega) hp))
   exact ql rfl (wn (v8 rfl) (qej (qfc 2) (qaq (Bv false)))) ⟨rfl,_,rfl⟩
 |none=>
  cases ok
  ·rw [if_pos (.inl rfl)]
   repeat' (first|apply qk|apply qc|apply qd|apply qj|apply qe|(apply zg;exact rfl;exact rfl)|(apply jc;exact rfl)|(apply ze;(iterate 4 exact rfl))|(apply yg;exact cRa)|(apply qi;exact rfl;apply qff;exact cRa)|(apply qa;exact rfl;apply cd_t;exact cRa)|apply qr|(apply qg;exact Tryz.call221;exact hdc _)|(apply qg;exact Tryz.call58;exact qj8 _ _ (by omega) hp))
   exact ql rfl (wn (v8 rfl) (qej (qfc 2) (qaq (Bv false)))) ⟨rfl,_,rfl⟩
  ·rw [if_neg (by simp)]
   have hsc:=fun st=>q39 (j8 b).2 st (by omega) (fun x hx=>by have:=(hit x hx).1.1;omega)
   have hml:((j8 b).2.map yy).length=(j8 b).2.length:=by simp
   cases hr:recsF (j8 b).2 with
   |nil=>
    rw [hr] at hsc
    repeat' (first|apply qk|apply qc|apply qd|apply qj|apply qe|(apply zg;exact rfl;exact rfl)|(apply qq;(iterate 3 exact rfl))|(apply jb;(iterate 3 exact rfl))|(apply jc;exact rfl)|(apply ze;(iterate 4 exact rfl))|(apply ym;exact cRa)|(apply qi;exact rfl;apply qd5;exact cRa)|(apply qa;exact rfl;apply cd_t;exact cRa)|(apply qa;exact rfl;apply cd_f;exact cRa)|(apply zl;(iterate 4 exact rfl))|(apply jj;exact rfl;exact rfl)|apply qs|apply qr|(apply qg;exact Tryz.call221;exact hdc _)|(apply qg;exact Tryz.call58;exact qj8 _ _ (by omega) hp)|(apply qg;exact Tryz.call222;exact hsc _))
    exact ql rfl (wn (v8 rfl) (qej (qfc 2) (qaq (Bv (decide (b=[])))))) ⟨rfl,_,rfl⟩
   |cons f r=>
    rw [hr] at hsc
    have hrl:((f::r).map kv).length=r.length+1:=by simp
    repeat' (first|apply qk|apply qc|apply qd|apply qj|apply qe|(apply zg;exact rfl;exact rfl)|(apply qq;(iterate 3 exact rfl))|(apply jc;exact rfl)|(apply ze;(iterate 4 exact rfl))|(apply ym;exact cRa)|(apply qi;exact rfl;apply qd5;exact cRa)|(apply qa;exact rfl;apply ko;exact cAo)|(apply qa;exact rfl;apply cd_f;exact cRa)|(apply zl;(iterate 4 exact rfl))|(apply jj;exact rfl;exact rfl)|(apply zn;(iterate 3 exact rfl))|apply qs|apply qr|(apply qg;exact Tryz.call221;exact hdc _)|(apply qg;exact Tryz.call58;exact qj8 _ _ (by omega) hp)|(apply qg;exact Tryz.call222;exact hsc _)|(apply z6 (n:=0);(iterate 6 exact rfl)))
    refine ql rfl (v8 rfl) ⟨za0 rfl (decide_eq_decide.2 ?_),_,rfl⟩
    rw [hml]
    omega
end Go.Proofs.YtmoklbacdkmkaaaGreatDoor
