/- Contracts and plain facts that the closing text leans on (part 6). No condition of their own beyond those that each states. -/
import Derived.Test.YtneejjefekdgjaaGreatDoorK5
import Derived.Laws.StructEq
import Derived.MapKept
import Derived.LaidEql
import Derived.Stop.Asserts
import Derived.RowKitTokens
set_option maxRecDepth 100000
set_option linter.unusedVariables false
set_option linter.unusedSimpArgs false
namespace Go.Proofs.YtneejjefekdgjaaGreatDoor
open Go Go.Av Go.RowKit Go.Proofs Go.Pl
def qc1 (n0:Nat) (ks:List Nat) (sl:List (Nat×SV)) (hp:List (Nat×Option SR)) (nx:Nat):Bool:=
 sl.all (fun q=>q.2.all fun k=>Nat.blt k n0) && hp.all (fun q=>match q.2 with
  |some (.cells _ _)=>memN ks q.1
  |some (.own _ _ _)=>false
  |some (.obj _)=>memN ks q.1
  |some (.rows _ _ _)=>false
  | _=>true) && Nat.ble n0 nx
def ksIn (n0:Nat) (ks:List Nat) (hp:List (Nat×Option SR)):Bool:=ks.all fun k=>Nat.blt k n0 && match lkS hp k with
 |some (some (.cells _ _))=>true
 |some (some (.obj _))=>true
 | _=>false
structure RB (E:Env) (N:Nat) (F:Nat→Prop) (ρ : Nat→AV) (n0:Nat) (body:Code) (Q:Exit→Conf→Prop) (C:Conf):Prop where
 run:∀ S rd,Sm E rd N ⟨S,F,ρ,n0,False⟩ body Q C
structure RA (E:Env) (N:Nat) (n0:Nat) (asg:Code) (K:(Nat→Prop)→(Nat→AV)→Conf→Prop) (C:Conf):Prop where
 run:∀ S F ρ rd,Sm E rd N ⟨S,F,ρ,n0,True⟩ asg (fun e C1=>match e with
  | .normal=>∀ F',K F' ρ C1
  | _=>False) C
def q09 (Q:Exit→Conf→Prop):Code→Conf→Prop
 | .ret=>Q .ret
 | .exit id=>Q (.exit id)
 | _=>fun _=>False
def qqb (k:Nat) (text rest:List UInt8):SV:=.ag [.i k,.i ((text.length:Int) - rest.length),.s (upto 10 rest),.p (10∈rest) inferInstance]
theorem q7e (k:Nat) (text rest:List UInt8) (ρ : Nat→AV):(qqb k text rest).ev ρ = qul k text rest:=rfl
@[reducible] def rndQ {X : Type} (n0 : Nat) (P : X → Prop) (D : Code → X → Prop) (C : X → Conf) (e : Exit) (C2 : Conf) : Prop := match e with
 | .normal=>∃ x,P x∧EntA n0 C2 (C x)
 | .ret=>∃ x,D .ret x∧EntA n0 C2 (C x)
 | .exit id=>∃ x,D (.exit id) x∧EntA n0 C2 (C x)
 | _=>False
section
variable {N : Nat} {B : Bs} {C : Conf} {Q : Exit → Conf → Prop} {rd : Option Nat}
structure RInv (B:Bs) (n0 n:Nat) (ks:List Nat) (ρ1 t:Nat→AV) (df:List Nat) (C:Conf) (S:List AObj):Prop where
 ex:∃ ρ,(∀ k,k<n0→ρ k = ρ1 k)∧SatR B.S0 B.F C ρ t S∧(∀ d∈df,S[d]? = some .dfr)∧n≤S.length
theorem qvq {n0 n:Nat} {ks:List Nat} {ρ1 ρ : Nat→AV} {hp:List (Nat×Option SR)} {sl:List (Nat×SV)} {nx k:Nat} {T:TypeId} {cs:List SV} (hks:∀ k∈ks,k<n0∧∃ o,z6 (ρ1 k)=some o∧o<n) (hr:qc1 n0 ks sl hp nx=true) (hρ : ∀ k,k<n0→ρ k = ρ1 k) (hk:hpF hp k=some (.cells T cs)):k<n0∧∃ o,z6 (ρ k)=some o∧o<n:=by
 have h1:=y7 hk
 simp only [qc1,Bool.and_eq_true] at hr
 have:=List.all_eq_true.1 hr.1.2 _ (xc h1)
 simp only at this
 obtain⟨g1,g2⟩:=hks k (qoi this)
 refine⟨g1,?_⟩
 rw [hρ k g1]
 exact g2
theorem q46 {n0:Nat} {ks:List Nat} {sl:List (Nat×SV)} {hp:List (Nat×Option SR)} {nx k sz:Nat} {T:TypeId} {xs:List AV} (hr:qc1 n0 ks sl hp nx=true) (hk:hpF hp k=some (.own sz T xs)):False:=by
 have h1:=y7 hk
 simp only [qc1,Bool.and_eq_true] at hr
 have:=List.all_eq_true.1 hr.1.2 _ (xc h1)
 simp at this
theorem q4t {n0 n:Nat} {ks:List Nat} {ρ1 ρ : Nat→AV} {hp:List (Nat×Option SR)} {sl:List (Nat×SV)} {nx k:Nat} {P:AObj→AV→Prop} (hks:∀ k∈ks,k<n0∧∃ o,z6 (ρ1 k)=some o∧o<n) (hr:qc1 n0 ks sl hp nx=true) (hρ : ∀ k,k<n0→ρ k = ρ1 k) (hk:hpF hp k=some (.obj P)):k<n0∧∃ o,z6 (ρ k)=some o∧o<n:=by
 have h1:=y7 hk
 simp only [qc1,Bool.and_eq_true] at hr
 have:=List.all_eq_true.1 hr.1.2 _ (xc h1)
 simp only at this
 obtain⟨g1,g2⟩:=hks k (qoi this)
 refine⟨g1,?_⟩
 rw [hρ k g1]
 exact g2
theorem q0h {n0:Nat} {ks:List Nat} {sl:List (Nat×SV)} {hp:List (Nat×Option SR)} {nx k:Nat} {T2:TypeId} {ys2:List AV} {cs2:List SV} (hr:qc1 n0 ks sl hp nx=true) (hk:hpF hp k=some (.rows T2 ys2 cs2)):False:=by
 have h1:=y7 hk
 simp only [qc1,Bool.and_eq_true] at hr
 have:=List.all_eq_true.1 hr.1.2 _ (xc h1)
 simp at this
theorem RInv.ext {n0 n:Nat} {ks:List Nat} {ρ1 t:Nat→AV} {df:List Nat} {C:Conf} {S S':List AObj} (h:RInv B n0 n ks ρ1 t df C S) (hks:∀ k∈ks,k<n0∧∃ o,z6 (ρ1 k)=some o∧o<n) (hr:qc1 n0 ks C.sl C.hp C.nx=true) (hB:B.S0.length≤n) (hdn:∀ d∈df,d<n) (hE:Ext n S S'):RInv B n0 n ks ρ1 t df C S':=by
 obtain⟨ρ,hρ,hR,hd,hn⟩:=h.ex
 refine⟨ρ,hρ,⟨hR.sl,⟨fun k r hk=>?_,hR.hp.sep⟩,hR.own,fun j hj hF=>?_,Nat.le_trans hR.len hE.len,hR.wsl,hR.whp⟩,fun d hdd=>?_,Nat.le_trans hn hE.len⟩
 ·refine SR.ok_of (f:=fun _=>true) (SR.all_mono (fun _ _=>rfl) r (hR.whp k r hk).2) (fun _ _=>rfl) (hR.hp.ok k r hk) fun o ho=>?_
  rcases SR.ok_ct (hR.hp.ok k r hk) ho with⟨T,cs,v,h1,T',cs',rfl⟩ | ⟨m,sz,T,h1⟩ | ⟨sz,T,xs,rfl⟩ | ⟨P1,rfl⟩ | ⟨T2,ys2,cs2,rfl⟩
  rotate_left 2
  ·exact (q46 hr hk).elim
  ·obtain⟨_,o',h2,h3⟩:=q4t hks hr hρ hk
   rw [h2] at ho
   simp only [Option.some.injEq] at ho
   subst ho
   exact hE.low _ h3
  ·exact (q0h hr hk).elim
  ·obtain⟨_,o',h2,h3⟩:=qvq hks hr hρ hk
   rw [h2] at ho
   simp only [Option.some.injEq] at ho
   subst ho
   exact hE.low _ h3
  ·exact hE.tips _ _ _ _ h1
 ·rw [hE.low j (by omega)]
  exact hR.low j hj hF
 ·rw [hE.low d (hdn d hdd)]
  exact hd d hdd
def evY {ι : Type} (Y : ι→Option (SV×ι)) (i : ι):Option (AV×ι):=match Y i with
 |some (v,j)=>some (v.ev fun _=>jw,j)
 |none=>none
theorem qnu {X:Type} {f:Operand} {p:Tmp} {asg body:Code} {g:FuncId} {T:TypeId} {cs:List AV} {ι : Type} {Y : ι→Option (SV×ι)} {i0 : ι} (hit:ItC g T cs (evY Y) i0) (hrun:∀ vs w,(callFunc g vs).run E.P w = .ok (.enter g vs) w) (hY:∀ i v j,Y i=some (v,j)→v.all (fun _=>false)=true) (kb n0:Nat) (cv:List SV) (hcv:∀ ρ,SV.evs ρ cv=cs) (ks:List Nat) (I:X→Conf) (sl0:List (Nat×SV)) (P : ι→X→Prop) (D:Code→X→Prop) (x0:X) (h0:P i0 x0)
  (he:EntA B.n0 C (I x0)) (hz:¬ B.dz) (hsl:∀ x,(I x).sl=sl0)
  (hf:sval N sl0 f=some (.fn (.func g) [] [.bx kb 0]))
  (hkb:∀ x,lkS (I x).hp kb=some (some (.cells T cv)))
  (hr:∀ x,qc1 n0 ks (I x).sl (I x).hp (I x).nx=true) (h0r:(ksIn n0 ks (I x0).hp && Nat.ble B.n0 n0)=true)
  (hb:∀ i x v j,P i x→Y i=some (v,j)→RA E N n0 asg (fun F ρ C1=>RB E N F ρ n0 body (rndQ n0 (P j) D I) C1) ⟨(p,v)::(I x).sl,(I x).hp,(I x).nx⟩)
  (hn:∀ i x,Y i=none→P i x→Q .normal (I x)) (hd:∀ c x,D c x→q09 Q c (I x)):Sm E none N B (.rangeFunc f #[p] asg body) Q C:=⟨fun s hs=>by
 obtain⟨ts,S0,df⟩:=s
 obtain⟨ρ0,hF0,hR0⟩:=hs
 simp only at hF0 hR0
 obtain⟨σ,hrg,he⟩:=he.ent
 have hF1:=hF0.ren (C':=I x0) hrg
 obtain⟨t,hw,hR1⟩:=he.sat hR0
 clear hF0 hR0 he hrg
 generalize renR σ ρ0 = ρ1 at hF1 hR1
 refine q3j hw ?_
 simp only [Bool.and_eq_true] at h0r
 have hBn:=Nat.le_of_ble_eq_true h0r.2
 have hB:=hR1.len
 have hks:∀ k∈ks,k<n0∧∃ o,z6 (ρ1 k)=some o∧o<S0.length:=fun k hk=>by
  have:=List.all_eq_true.1 h0r.1 k hk
  simp only [Bool.and_eq_true] at this
  refine⟨xj this.1,?_⟩
  have h2:=this.2
  split at h2
  ·rename_i T cs hl
   have hk2:hpF (I x0).hp k=some (.cells T cs):=by unfold hpF;rw [hl]
   obtain⟨o,v,h1,h3,rfl⟩:=hR1.hp.ok k _ hk2
   exact⟨o,by rw [h1];rfl,lt_of_getElem? h3⟩
  ·rename_i P hl
   have hk2:hpF (I x0).hp k=some (.obj P):=by unfold hpF;rw [hl]
   obtain⟨o,x,h1,h3,_⟩:=hR1.hp.ok k _ hk2
   exact⟨o,h1,lt_of_getElem? h3⟩
  ·simp at h2
 have hdn:∀ d∈df,d<S0.length:=fun d hd=>lt_of_getElem? (hF1.dm d hd).1
 have hi0:RInv B n0 S0.length ks ρ1 t df (I x0) S0:=⟨ρ1,fun _ _=>rfl,hR1,fun d hd=>(hF1.dm d hd).1,Nat.le_refl _⟩
 have hnm:∀ x,(sl0.all fun q=>q.2.all fun k=>Nat.blt k n0)=true:=fun x=>by
  have:=hr x
  simp only [qc1,Bool.and_eq_true,hsl] at this
  exact this.1.1
 have hnm:=hnm x0
 have slot:∀ {ρ : Nat→AV},(∀ k,k<n0→ρ k = ρ1 k)→SlOk ρ t sl0:=fun {ρ} hρ d v hd=>by
  rw [hR1.sl d v (by rw [hsl];exact hd)]
  exact (qcx (fun k hk=>hρ k (xj hk)) v (List.all_eq_true.1 hnm _ (xc hd))).symm
 have hnx:∀ x,n0≤(I x).nx:=fun x=>by
  have:=hr x
  simp only [qc1,Bool.and_eq_true] at this
  exact Nat.le_of_ble_eq_true this.2
 have hkb1:kb<n0∧∃ o,ρ1 kb = .bx o 0 0∧o<S0.length:=by
  have h1:=hr x0
  simp only [qc1,Bool.and_eq_true] at h1
  have:=List.all_eq_true.1 h1.1.2 _ (xc (hkb x0))
  have hk2:hpF (I x0).hp kb=some (.cells T cv):=by unfold hpF;rw [hkb x0]
  obtain⟨o,v,h1,h3,rfl⟩:=hR1.hp.ok kb _ hk2
  exact⟨(hks kb (qoi this)).1,o,h1,lt_of_getElem? h3⟩
 obtain⟨hkbn,okb,hokb,hokl⟩:=hkb1
 have hfe:=q6 (S:=S0) (df:=df) (slot fun _ _=>rfl) hf
 simp only [SV.ev,SV.evs,hokb,bxAt] at hfe
 have out:∀ {x S},RInv B n0 S0.length ks ρ1 t df (I x) S→S[S0.length]? = some .dfr→SatC B (I x) ⟨t,S,S0.length::df⟩:=fun {x S} hi hm=>by
  obtain⟨ρ,hρ,hR,hdd,hnS⟩:=hi.ex
  refine⟨ρ,⟨fun d hd=>?_,List.nodup_cons.2 ⟨fun h=>Nat.lt_irrefl _ (hdn _ h),hF1.nd⟩,fun k hk=>(hρ k (by omega)).trans (hF1.rig k hk),Nat.le_trans hBn (hnx x),fun h=>(hz h).elim⟩,hR⟩
  rcases List.mem_cons.1 hd with rfl|hd
  ·exact⟨hm,hB⟩
  ·exact⟨hdd d hd,(hF1.dm d hd).2⟩
 refine qvl (S0:=S0) hit rfl hfe hrun
  (fun i S=>∃ x,P i x∧RInv B n0 S0.length ks ρ1 t df (I x) S) (fun c S=>∃ x,D c x∧RInv B n0 S0.length ks ρ1 t df (I x) S) ⟨x0,h0,hi0⟩ ?_ ?_ ?_ ?_ ?_ ?_
 ·rintro i S ⟨x,_,hi⟩
  obtain⟨ρ,hρ,hR,_⟩:=hi.ex
  have hk2:hpF (I x).hp kb=some (.cells T cv):=by unfold hpF;rw [hkb x]
  obtain⟨o,v,h1,h3,rfl⟩:=hR.hp.ok kb _ hk2
  rw [hρ kb hkbn,hokb] at h1
  simp only [AV.bx.injEq] at h1
  obtain⟨rfl,_⟩:=h1
  rw [hcv] at h3
  exact h3
 ·rintro i S S' hE ⟨x,hx,hi⟩
  exact⟨x,hx,hi.ext hks (hr x) hB hdn hE⟩
 ·rintro c S S' hE ⟨x,hx,hi⟩
  exact⟨x,hx,hi.ext hks (hr x) hB hdn hE⟩
 ·rintro F own rd i u j S hF ⟨x,hx,hi⟩ hy hm0 hm1 hm2
  obtain⟨v,hv,hu⟩:∃ v,Y i=some (v,j)∧u=v.ev fun _=>jw:=by
   unfold evY at hy
   split at hy
   ·rename_i v j2 hv
    simp only [Option.some.injEq,Prod.mk.injEq] at hy
    obtain⟨rfl,rfl⟩:=hy
    exact⟨v,hv,rfl⟩
   ·simp at hy
  subst hu
  have hva:=hY i v j hv
  obtain⟨ρ,hρ,hR,hdd,hnS⟩:=hi.ex
  -- what no resource's place is
  have qdd:∀ o y,S[o]? = some y→S0.length≤o→(∀ m sz T,y≠.tip m sz T)→¬ qdg (I x).hp ρ o:=fun o y hy ho hyt ⟨k,r,hk,hl⟩=>by
   rcases SR.ok_ct (hR.hp.ok k r hk) hl with⟨T,cs,v,h1,T',cs',rfl⟩ | ⟨m,sz,T,h1⟩ | ⟨sz,T,xs,rfl⟩ | ⟨P1,rfl⟩ | ⟨T2,ys2,cs2,rfl⟩
   rotate_left 2
   ·exact (q46 (hr x) hk).elim
   ·obtain⟨_,o',h2,h3⟩:=q4t hks (hr x) hρ hk
    rw [h2] at hl
    simp only [Option.some.injEq] at hl
    omega
   ·exact (q0h (hr x) hk).elim
   ·obtain⟨_,o',h2,h3⟩:=qvq hks (hr x) hρ hk
    rw [h2] at hl
    simp only [Option.some.injEq] at hl
    omega
   ·rw [h1] at hy
    simp only [Option.some.injEq] at hy
    exact hyt _ _ _ hy.symm
  have a0:=qdd _ _ hm0 (by omega) (fun _ _ _=>by simp)
  have a1:=qdd _ _ hm1 (by omega) (fun _ _ _=>by rw [hF];simp)
  have a2:=fun k y hk=>qdd _ _ (hm2 k y hk).1 (by omega) (fun m sz T e=>(hm2 k y hk).2 m sz T (by rw [e]))
  have ad:∀ d∈df,¬ qdg (I x).hp ρ d:=fun d hd ⟨k,r,hk,hl⟩=>SR.ok_dfr (hR.hp.ok k r hk) hl (hdd d hd)
  have l2:=lt_of_getElem? hm1
  have s1:=((hb i x v j hx hv).run S (qdg (I x).hp ρ) ρ1 rd).run ⟨put t p (v.ev fun _=>jw),S,[]⟩
   ⟨ρ,⟨nofun,List.nodup_nil,hρ,hnx x,fun _=>rfl⟩,?_⟩
  rotate_left
  ·have hb1:=hR.rebase (S':=S) fun _ _=>rfl
   refine⟨fun d v hd=>?_,hb1.hp,hb1.own,hb1.low,hb1.len,fun d v hd=>?_,hb1.whp⟩
   ·simp only [lkS] at hd
    cases hbe:Nat.beq p d with
    |true=>
     rw [hbe] at hd
     simp only [cond_true,Option.some.injEq] at hd
     have e:=Nat.eq_of_beq_eq_true hbe
     subst e hd
     simp only [put]
     rw [qcx (f:=fun _=>false) (ρ:=fun _=>jw) (ρ':= ρ) (fun k hk=>by simp at hk) v hva]
     simp
    |false=>
     rw [hbe] at hd
     have e:d≠p:=fun e=>by subst e;simp at hbe
     have:=hb1.sl d v hd
     simp only [put]
     rw [show Nat.beq d p=false from wb e]
     exact this
   ·simp only [lkS] at hd
    cases hbe:Nat.beq p d with
    |true=>
     rw [hbe] at hd
     simp only [cond_true,Option.some.injEq] at hd
     subst hd
     exact all_mono (f:=fun _=>false) (fun k hk=>by simp at hk) v hva
    |false=>
     rw [hbe] at hd
     exact hb1.wsl d _ hd
  refine s1.mono fun e s1 ⟨C1,hq,hs1⟩=>?_
  cases e with
  |normal=>
   obtain⟨ρs,hFs,hRs⟩:=hs1
   have hdf1:=hFs.dz trivial
   have b1:s1.st[S0.length+1]? = some (F .ready none):=(hRs.low _ (by simp only;omega) a1).trans hm1
   refine⟨b1,hdf1,?_⟩
   have hq:=(hq (qdg C1.hp ρs)).run (s1.st.set (S0.length+1) (F .busy none)) (some rd)
   have c0:∀ o,o<S.length→¬ qdg (I x).hp ρ o→¬ qdg C1.hp ρs o:=fun o ho hn ⟨k,r,hk,hl⟩=>by
    rcases hRs.own k r hk o hl with h|h
    ·simp only at h
     omega
    ·exact hn h
   have hRb:=hRs.rebase (S':=s1.st.set (S0.length+1) (F .busy none)) fun o ho=>List.getElem?_set_ne fun e=>c0 (S0.length+1) (by omega) a1 (by rw [e];exact ho)
   refine (hq.run ⟨s1.t,s1.st.set (S0.length+1) (F .busy none),[]⟩ ⟨ρs,⟨nofun,List.nodup_nil,hFs.rig,hFs.le,nofun⟩,hRb⟩).mono fun e s2 ⟨C2,hq2,hs2⟩=>?_
   obtain⟨ρ2,hF2,hR2⟩:=hs2
   have hl1:=hRs.len
   have keep:∀ o y,o≠S0.length+1→S[o]? = some y→¬ qdg (I x).hp ρ o→s2.st[o]? = some y:=fun o y hne hy hn=>by
    have ho:=lt_of_getElem? hy
    rw [hR2.low o (by simp only [List.length_set];simp only at hl1;omega) (c0 o ho hn)]
    simp only
    rw [List.getElem?_set_ne (fun e=>hne e.symm),hRs.low o ho hn]
    exact hy
   have k0:=keep _ _ (by omega) hm0 a0
   have k2:∀ k y,own[k]? = some y→s2.st[S0.length+2+k]? = some y:=fun k y hk=>keep _ _ (by omega) (hm2 k y hk).1 (a2 k y hk)
   have k1:s2.st[S0.length+1]? = some (F .busy none):=by
    rw [hR2.low _ (by simp only [List.length_set];simp only at hl1;omega) (c0 _ (by omega) a1)]
    simp only
    exact xg b1
   have fin:∀ x',EntA n0 C2 (I x')→RInv B n0 S0.length ks ρ1 t df (I x') s2.st:=fun x' he'=>by
    obtain⟨σ2,hrg2,he2⟩:=he'.ent
    have hF3:=hF2.ren (C':=I x') hrg2
    obtain⟨t3,_,hR3⟩:=he2.sat hR2
    have hl3:=hR3.len
    simp only [List.length_set] at hl3
    simp only at hl1
    refine⟨_,hF3.rig,⟨by rw [hsl];exact slot hF3.rig,hR3.hp,fun k r hk o ho=>?_,fun j hj hnj=>?_,by omega,hR3.wsl,hR3.whp⟩,fun d hd=>?_,by omega⟩
    ·rcases hR3.own k r hk o ho with h | ⟨k',r',h,h'⟩
     ·simp only [List.length_set] at h
      exact .inl (by omega)
     ·rcases hRs.own k' r' h o h' with h | ⟨k2,r2,h2,h3⟩
      ·simp only at h
       exact .inl (by omega)
      ·exact hR.own k2 r2 h2 o h3
    ·have hj0:¬ qdg (I x).hp ρ j:=fun ⟨k',r',h,h'⟩=>by
      rcases hR.own k' r' h j h' with h|h
      ·omega
      ·exact hnj h
     have hjS:j<S.length:=by omega
     rw [← hR.low j hj hnj]
     obtain⟨y,hy⟩:∃ y,S[j]? = some y:=⟨_,List.getElem?_eq_getElem hjS⟩
     rw [hy]
     exact keep j y (by omega) hy hj0
    ·exact keep d _ (by have:=hdn d hd;omega) (hdd d hd) (ad d hd)
   cases e with
   |normal=>
    obtain⟨x',hx',he'⟩:=hq2
    exact⟨k0,k1,k2,x',hx',fin x' he'⟩
   |ret=>
    obtain⟨x',hx',he'⟩:=hq2
    exact⟨k0,k1,k2,x',hx',fin x' he'⟩
   |exit id=>
    obtain⟨x',hx',he'⟩:=hq2
    exact⟨k0,k1,k2,x',hx',fin x' he'⟩
   | _=>exact hq2.elim
  | _=>exact hq.elim
 ·rintro i S hy ⟨x,hx,hi⟩ hm
  exact⟨I x,hn i x (by
   unfold evY at hy
   split at hy
   ·simp at hy
   ·assumption) hx,out hi hm⟩
 ·rintro c S ⟨x,hx,hi⟩ hm
  have hq:=hd c x hx
  cases c with
  |ret=>exact zb ⟨I x,hq,out hi hm⟩
  |exit id=>exact jq ⟨I x,hq,out hi hm⟩
  | _=>exact hq.elim⟩
theorem qr5 {X:Type} {f:Operand} {p:Tmp} {asg body:Code} (text:List UInt8) (kb n0:Nat) (ks:List Nat) (I:X→Conf) (sl0:List (Nat×SV)) (P:Nat→List UInt8→X→Prop) (D:Code→X→Prop) (x0:X) (h0:P 0 text x0)
  (he:EntA B.n0 C (I x0)) (hz:¬ B.dz) (ht:text.length<4294967281) (hsl:∀ x,(I x).sl=sl0)
  (hf:sval N sl0 f=some (.fn (.func 121) [] [.bx kb 0]))
  (hkb:∀ x,lkS (I x).hp kb=some (some (.cells 9 [.s text])))
  (hr:∀ x,qc1 n0 ks (I x).sl (I x).hp (I x).nx=true) (h0r:(ksIn n0 ks (I x0).hp && Nat.ble B.n0 n0)=true)
  (hb:∀ k rest x,P k rest x→rest≠[]→rest.length≤text.length→RA E N n0 asg (fun F ρ C1=>RB E N F ρ n0 body (rndQ n0 (P (k+1) (past 10 rest)) D I) C1) ⟨(p,qqb k text rest)::(I x).sl,(I x).hp,(I x).nx⟩)
  (hn:∀ k x,P k [] x→Q .normal (I x)) (hd:∀ c x,D c x→q09 Q c (I x)):Sm E none N B (.rangeFunc f #[p] asg body) Q C:=by
 have hY:evY (fun (q:Nat×List UInt8)=>if q.2=[]∨text.length<q.2.length then none else some (qqb q.1 text q.2,(q.1+1,past 10 q.2)))=qmc text:=by
  funext ⟨k,rest⟩
  by_cases h:rest=[]∨text.length<rest.length
  ·simp [evY,qmc,h]
  ·simp [evY,qmc,h,q7e]
 refine qnu (Y:=fun (q:Nat×List UInt8)=>if q.2=[]∨text.length<q.2.length then none else some (qqb q.1 text q.2,(q.1+1,past 10 q.2))) (i0:=(0,text)) (by rw [hY];exact q8l text ht) Tryz.call121 (fun i v j h=>?_) kb n0 [.s text] (fun _=>rfl) ks I sl0 (fun i x=>P i.1 i.2 x∧i.2.length≤text.length) D x0 ⟨h0,Nat.le_refl _⟩ he hz hsl hf hkb hr h0r (fun i x v j hp h=>?_) (fun i x h hp=>?_) hd
 ·split at h
  ·simp at h
  ·simp only [Option.some.injEq,Prod.mk.injEq] at h
   obtain⟨rfl,_⟩:=h
   rfl
 ·split at h
  ·simp at h
  ·rename_i hne
   simp only [Option.some.injEq,Prod.mk.injEq] at h
   obtain⟨rfl,rfl⟩:=h
   have hb:=hb i.1 i.2 x hp.1 (fun e=>hne (.inl e)) hp.2
   have hp2:=qcf 10 i.2
   exact⟨fun S F ρ rd=>⟨fun s hs=>((hb.run S F ρ rd).run s hs).mono fun e s' ⟨C',hq,hs'⟩=>⟨C',by
    cases e with
    |normal=>exact fun F'=>⟨fun S rd=>qxx ((hq F').run S rd) fun e C2 hq2=>by
      cases e with
      |normal=>obtain⟨x,h1,h2⟩:=hq2;exact⟨x,⟨h1,by simp only;have:=hp.2;omega⟩,h2⟩
      | _=>exact hq2⟩
    | _=>exact hq,hs'⟩⟩⟩
 ·split at h
  ·rename_i he
   have:i.2=[]:=he.elim id fun h=>by have:=hp.2;omega
   refine hn i.1 x ?_
   rw [← this]
   exact hp.1
  ·simp at h
end
theorem q2k {nx:Nat} {H:Nat→Option SR} (text:qe):x4 E 67 [.s text] nx H ⟨.fn (.func 121) [] [.bx nx 0],[],[(nx,some (.cells 9 [.s text]))],nx+1⟩:=fun ρ S hS=>by
 refine (za9 text S _ S.length rfl rfl).mono fun r S' ⟨hr,hs⟩=>⟨upd ρ nx (.bx S.length 0 0),?_,?_⟩
 ·rw [hr]
  simp only [SV.ev,SV.evs,xd,bxAt]
 ·subst hs
  have key:∀ k r',chF [(nx,some (SR.cells 9 [.s text]))] (resF [] H) k=some r'→k=nx∧r' = .cells 9 [.s text]:=fun k r' hk=>by
   simp only [chF,lkS] at hk
   cases hb:Nat.beq nx k with
   |true=>
    rw [hb] at hk
    simp only [cond_true,Option.some.injEq] at hk
    exact⟨(Nat.eq_of_beq_eq_true hb).symm,hk.symm⟩
   |false=>
    rw [hb] at hk
    simp [resF,memN] at hk
  refine⟨fun k hk=>qa5 _ _ (by simp only at hk;omega),⟨fun k r hk=>?_,fun k k' r r' hne h1 h2=>?_⟩,by simp,fun j hj _=>List.getElem?_append_left hj,fun k r hk o ho=>?_⟩
  ·obtain⟨rfl,rfl⟩:=key _ _ hk
   exact⟨S.length,0,xd _ _ _,by simp [SV.evs,SV.ev],rfl⟩
  ·obtain⟨rfl,_⟩:=key _ _ h1
   obtain⟨rfl,_⟩:=key _ _ h2
   exact absurd rfl hne
  ·obtain⟨rfl,_⟩:=key _ _ hk
   rw [xd] at ho
   simp only [z6,Option.some.injEq] at ho
   subst ho
   exact .inl (Nat.le_refl _)
end Go.Proofs.YtneejjefekdgjaaGreatDoor
namespace Go.Av
open Go Go.RowKit
def ym (hp:List (Nat×Option SR)):List (Nat×Option SR):=hp.map fun q=>(q.1,none)
def retS (P:Program) (fn:Func) (nx0:Nat) (r:SV) (hp1:List (Nat×Option SR)) (nx1:Nat) (e:Exit) (C:Conf):Prop:=
 match e with
 | .normal=>(match resV P fn.ntmps C fn.results.toList with
  |some v=>v.all (fun k=>Nat.blt k C.nx)=true∧EntA nx0 ⟨[(0,v)],C.hp,C.nx⟩ ⟨[(0,r)],hp1,nx1⟩
  |none=>False)
 | .ret=>(match resV P fn.ntmps C fn.results.toList with
  |some v=>v.all (fun k=>Nat.blt k C.nx)=true∧EntA nx0 ⟨[(0,v)],C.hp,C.nx⟩ ⟨[(0,r)],hp1,nx1⟩
  |none=>False)
 | _=>False
theorem q1x {hp:List (Nat×Option SR)} {k:Nat} {r:SR} (h:hpF hp k=some r):memN (x2 hp) k=true:=by
 have:=xc (y7 h)
 exact List.any_eq_true.2 ⟨k,List.mem_map.2 ⟨_,this,rfl⟩,by simp⟩
theorem qae (hp:List (Nat×Option SR)):resF (x2 hp) (hpF hp)=hpF hp:=by
 funext k
 unfold resF
 cases h:memN (x2 hp) k with
 |true=>rfl
 |false=>
  cases h2:hpF hp k with
  |none=>rfl
  |some r=>rw [q1x h2] at h;simp at h
theorem qtb:∀ (hp:List (Nat×Option SR)) (k:Nat),lkS (ym hp) k=none∧lkS hp k=none∨lkS (ym hp) k=some none
 | [],_=>.inl ⟨rfl,rfl⟩
 |(i,x)::r,k=>by
  simp only [ym,List.map_cons,lkS]
  cases hb:Nat.beq i k with
  |true=>exact .inr rfl
  |false=>exact qtb r k
theorem qfw (hp0 hp1:List (Nat×Option SR)):chF (hp1++ym hp0) (hpF hp0)=hpF hp1:=by
 funext k
 unfold chF
 rw [qdr]
 unfold hpF
 cases h:lkS hp1 k with
 |some r=>rfl
 |none=>
  simp only
  rcases qtb hp0 k with⟨h1,h2⟩|h1
  ·rw [h1,h2]
  ·rw [h1]
theorem qap {E:Env} {f:FuncId} {fn:Func} {c:Code} (vs:List SV) (hp0:List (Nat×Option SR)) (nx0:Nat) (r:SV) (hp1:List (Nat×Option SR)) (nx1:Nat) (hf:E.P.funcs[f]? = some fn) (hb:fn.body=some c) (hn:Nat.ble vs.length fn.ntmps=true)
  (hc:okC ⟨kh 0 vs,hp0,nx0⟩=true) (hc1:okC ⟨[(0,r)],hp1,nx1⟩=true)
  (h:∀ S F ρ,numK 0 vs fun sl=>Sm E none fn.ntmps ⟨S,F,ρ,nx0,False⟩ c (retS E.P fn nx0 r hp1 nx1) ⟨sl,hp0,nx0⟩):x4 E f vs nx0 (hpF hp0) ⟨r,x2 hp0,hp1++ym hp0,nx1⟩:=fun ρ S hS=>by
 simp only [qms] at h
 simp only [qae] at hS
 have hlen:(SV.evs ρ vs).length=vs.length:=by rw [yf,List.length_map]
 refine qt hf hb (by rw [hlen];exact Nat.le_of_ble_eq_true hn) ?_
 rw [List.append_nil]
 simp only [okC,Bool.and_eq_true] at hc hc1
 have hwhp:∀ k r,hpF hp0 k=some r→k<nx0∧r.all (fun k=>Nat.blt k nx0)=true:=fun k r hk=>by
  have:=List.all_eq_true.1 hc.2 _ (xc (y7 hk))
  simp only [Bool.and_eq_true] at this
  exact⟨xj this.1,this.2⟩
 have hst:SatC ⟨S,qdg hp0 ρ,ρ,nx0,False⟩ ⟨kh 0 vs,hp0,nx0⟩ ⟨argT (SV.evs ρ vs),S,[]⟩:=by
  refine⟨ρ,⟨nofun,List.nodup_nil,fun _ _=>rfl,Nat.le_refl _,nofun⟩,⟨fun d v hd=>?_,hS,fun k r hk o ho=>.inr ⟨k,r,hk,ho⟩,fun _ _ _=>rfl,Nat.le_refl _,fun d v hd=>?_,hwhp⟩⟩
  ·obtain⟨j,h1,h2⟩:=qds hd
   have:(SV.evs ρ vs)[j]? = some (v.ev ρ):=by rw [yf,List.getElem?_map,h2];rfl
   rw [h1,Nat.zero_add]
   simp only [argT,List.getD,this,Option.getD_some]
  ·exact List.all_eq_true.1 hc.1 _ (xc hd)
 refine ((h S (qdg hp0 ρ) ρ).run _ hst).mono fun e s' ⟨C',hq,hs'⟩=>?_
 obtain⟨t,S',df⟩:=s'
 obtain⟨ρ2,hdf,hR⟩:=hs'
 simp only at hdf hR
 have fin:(match resV E.P fn.ntmps C' fn.results.toList with
  |some v=>v.all (fun k=>Nat.blt k C'.nx)=true∧EntA nx0 ⟨[(0,v)],C'.hp,C'.nx⟩ ⟨[(0,r)],hp1,nx1⟩
  |none=>False)→ARet E fn (fun r' S'=>∃ ρ',r'=r.ev ρ'∧qgu ρ S nx0 (hpF hp0) ⟨r,x2 hp0,hp1++ym hp0,nx1⟩ ρ' S') ⟨t,S',df⟩:=fun h=>by
  split at h
  ·rename_i v hv
   obtain⟨hva,he⟩:=h
   obtain⟨σ,hrg,he⟩:=he.ent
   refine qgw hR hdf.dm hdf.nd fun S2 hR2=>?_
   have hR3:SatR S (qdg hp0 ρ) ⟨[(0,v)],C'.hp,C'.nx⟩ ρ2 (fun _=>v.ev ρ2) S2:=
    ⟨fun d u hd=>by
     simp only [lkS] at hd
     cases hb:Nat.beq 0 d with
     |true=>rw [hb] at hd;simp only [cond_true,Option.some.injEq] at hd;rw [hd]
     |false=>rw [hb] at hd;simp [lkS] at hd,hR2.hp,hR2.own,hR2.low,hR2.len,fun d u hd=>by
     simp only [lkS] at hd
     cases hb:Nat.beq 0 d with
     |true=>rw [hb] at hd;simp only [cond_true,Option.some.injEq] at hd;rw [← hd];exact hva
     |false=>rw [hb] at hd;simp [lkS] at hd,hR2.whp⟩
   obtain⟨t',hw,hR4⟩:=he.sat hR3
   have hrig:∀ k,k<nx0→renR σ ρ2 k = ρ k:=fun k hk=>by
    simp only [Bool.and_eq_true] at hrg
    unfold renR
    rw [qor hrg.1 k hk]
    exact hdf.rig k hk
   have hrn:nx0≤nx1:=by
    simp only [Bool.and_eq_true] at hrg
    exact Nat.le_of_ble_eq_true hrg.2
   generalize renR σ ρ2 = ρ3 at hR4 hrig
   have h0:t' 0=r.ev ρ3:=hR4.sl 0 r rfl
   have hwk:=hw 0
   rw [h0] at hwk
   let ρ':Nat→AV:=fun k=>bif Nat.ble nx1 k then ρ k else ρ3 k
   have hρ':∀ k,Nat.blt k nx1=true→ρ' k = ρ3 k:=fun k hk=>by
    show (bif Nat.ble nx1 k then ρ k else ρ3 k)=_
    have:Nat.ble nx1 k=false:=by
     cases hb:Nat.ble nx1 k with
     |false=>rfl
     |true=>have:=Nat.le_of_ble_eq_true hb;have:=xj hk;omega
    rw [this]
    rfl
   have hra:r.all (fun k=>Nat.blt k nx1)=true:=List.all_eq_true.1 hc1.1 (0,r) (by simp)
   have hev:r.ev ρ'=r.ev ρ3:=qcx hρ' r hra
   refine qq rfl (qbn (q0g hR2 hv) hwk) ⟨ρ',hev.symm,?_⟩
   have hwh:∀ k r,hpF hp1 k=some r→ρ' k = ρ3 k∧r.all (fun k=>Nat.blt k nx1)=true:=fun k r hk=>by
    obtain⟨g1,g2⟩:=hR4.whp k r hk
    exact⟨hρ' k (qb5 g1),g2⟩
   refine⟨fun k hk=>?_,?_,hR4.len,fun j hj hn=>?_,fun k r hk o ho=>?_⟩
   ·show (bif Nat.ble nx1 k then ρ k else ρ3 k)=_
    cases hb:Nat.ble nx1 k with
    |true=>rfl
    |false=>
     rcases hk with hk|hk
     ·exact hrig k hk
     ·have:=Nat.ble_eq_true_of_le hk
      simp only at this
      rw [this] at hb
      simp at hb
   ·simp only [qae,qfw]
    refine⟨fun k r hk=>?_,fun k k' r r' hne h1 h2 o ho=>?_⟩
    ·obtain⟨g1,g2⟩:=hwh k r hk
     rw [g1]
     exact SR.ok_of g2 hρ' (hR4.hp.ok k r hk) fun _ _=>rfl
    ·rw [(hwh k r h1).1] at ho
     rw [(hwh k' r' h2).1]
     exact hR4.hp.sep k k' r r' hne h1 h2 o ho
   ·simp only [qae] at hn
    exact hR4.low j hj fun ⟨k,r,hk,hl⟩=>hn k r hk hl
   ·simp only [qae,qfw] at hk ⊢
    rw [(hwh k r hk).1] at ho
    exact hR4.own k r hk o ho
  ·exact h.elim
 cases e with
 |normal=>exact fin hq
 |ret=>exact fin hq
 | _=>exact hq.elim
def newN:Nat→Nat→Nat→List (Nat×Nat)
 | _,_,0=>[]
 |a,b,m+1=>(a,b)::newN (a+1) (b+1) m
theorem qwu:∀ (m a b k:Nat),lkS (newN a b m) k=if a≤k∧k<a+m then some (b+(k - a)) else none
 | 0,a,b,k=>by rw [if_neg (by omega)];rfl
 |m+1,a,b,k=>by
  simp only [newN,lkS]
  by_cases h:a=k
  ·subst h
   simp
  ·rw [wb h,qwu m]
   simp only [cond_false]
   by_cases h2:a+1≤k∧k<a+1+m
   ·rw [if_pos h2,if_pos (by omega)]
    congr 1
    omega
   ·rw [if_neg h2,if_neg (by omega)]
def nmOf (σ : List (Nat×Nat)) (k:Nat):Nat:=match lkS σ k with
 |some j=>j
 |none=>0
def SR.ren (σ : List (Nat×Nat)):SR→SR
 | .cells T cs=>.cells T (SV.rens σ cs)
 | .tip sz T xs=>.tip sz T xs
 | .own sz T xs=>.own sz T xs
 | .obj P=>.obj P
 | .rows T ys cs=>.rows T ys (SV.rens σ cs)
def renO (σ : List (Nat×Nat)):Option SR→Option SR
 |some r=>some (r.ren σ)
 |none=>none
def renH (σ : List (Nat×Nat)):List (Nat×Option SR)→List (Nat×Option SR)
 | []=>[]
 |(k,r)::l=>(nmOf σ k,renO σ r)::renH σ l
def fltH (ks:List Nat):List (Nat×Option SR)→List (Nat×Option SR)
 | []=>[]
 |(k,r)::l=>bif memN ks k then (k,r)::fltH ks l else fltH ks l
def outH (ks:List Nat):List (Nat×Option SR):=ks.map fun k=>(k,none)
def qpr:List Nat→Bool
 | []=>true
 |k::r=> !memN r k && qpr r
theorem qz2 (ks:List Nat):∀ (hp:List (Nat×Option SR)) (k:Nat),lkS (fltH ks hp) k=bif memN ks k then lkS hp k else none
 | [],k=>by simp only [fltH,lkS];cases memN ks k <;> rfl
 |(i,r)::l,k=>by
  have ih:=qz2 ks l k
  simp only [fltH]
  by_cases e:i=k
  ·subst e
   cases hm:memN ks i with
   |true=>simp [lkS]
   |false=>rw [hm] at ih;simp only [cond_false] at ih ⊢;exact ih
  ·cases hm:memN ks i with
   |true=>simp only [cond_true,lkS,wb e,cond_false];exact ih
   |false=>simp only [cond_false,lkS,wb e];exact ih
theorem qz1 (ks:List Nat) (hp:List (Nat×Option SR)):hpF (fltH ks hp)=resF ks (hpF hp):=by
 funext k
 unfold hpF resF
 rw [qz2]
 cases memN ks k <;> rfl
theorem qz4 {σ : List (Nat×Nat)}:∀ {hp:List (Nat×Option SR)} {j:Nat} {rr:SR},lkS (renH σ hp) j=some (some rr)→∃ k r,(k,some r)∈hp∧nmOf σ k=j∧rr=r.ren σ
 | [],j,rr,h=>by simp [renH,lkS] at h
 |(k,r)::l,j,rr,h=>by
  simp only [renH,lkS] at h
  cases hb:Nat.beq (nmOf σ k) j with
  |true=>
   rw [hb] at h
   simp only [cond_true,Option.some.injEq] at h
   cases r with
   |none=>simp [renO] at h
   |some r=>
    simp only [renO,Option.some.injEq] at h
    exact⟨k,r,by simp,Nat.eq_of_beq_eq_true hb,h.symm⟩
  |false=>
   rw [hb] at h
   obtain⟨k',r',h1,h2,h3⟩:=qz4 h
   exact⟨k',r',List.mem_cons_of_mem _ h1,h2,h3⟩
theorem qst:∀ {hp:List (Nat×Option SR)} {k:Nat} {r:SR},qpr (x2 hp)=true→(k,some r)∈hp→hpF hp k=some r
 | [],k,r,_,h=>by simp at h
 |(i,x)::l,k,r,hd,h=>by
  simp only [x2,List.map_cons,qpr,Bool.and_eq_true] at hd
  unfold hpF
  simp only [lkS]
  rcases List.mem_cons.1 h with e|e
  ·simp only [Prod.mk.injEq] at e
   obtain⟨rfl,rfl⟩:=e
   simp
  ·have hne:i≠k:=fun e'=>by
    subst e'
    have:memN (List.map Prod.fst l) i=true:=List.any_eq_true.2 ⟨i,List.mem_map.2 ⟨_,e,rfl⟩,by simp⟩
    rw [this] at hd
    simp at hd
   rw [wb hne]
   exact qst hd.2 e
theorem qz3:∀ (ks:List Nat) (j:Nat),lkS (outH ks) j=bif memN ks j then some none else none
 | [],j=>rfl
 |k::r,j=>by
  have ih:=qz3 r j
  simp only [outH,List.map_cons,lkS,memN,List.any_cons]
  by_cases e:k=j
  ·subst e;simp
  ·rw [wb e,wb (fun h=>e h.symm)]
   exact ih
theorem qw1 {α : Type}:∀ {l:List α} {i0 i:Nat} {v : α},l[i]? = some v→lkS (kh i0 l) (i0+i)=some v
 | [],_,_,_,h=>by simp at h
 |x::r,i0,0,v,h=>by
  simp only [List.getElem?_cons_zero,Option.some.injEq] at h
  subst h
  simp [kh,lkS]
 |x::r,i0,i+1,v,h=>by
  simp only [kh,lkS]
  rw [wb (by omega),show i0+(i+1)=i0+1+i by omega]
  exact qw1 (by simpa using h)
theorem zbw {E:Env} {f:FuncId} {vs0:List SV} {hp0:List (Nat×Option SR)} {nx0:Nat} {r:SV} {hp1:List (Nat×Option SR)} {nx1:Nat} (h:x4 E f vs0 nx0 (hpF hp0) ⟨r,x2 hp0,hp1++ym hp0,nx1⟩)
  (σ : List (Nat×Nat)) {hpU:List (Nat×Option SR)} {vs:List SV} {nx:Nat} (hl:vs.length=vs0.length) (hc:okC ⟨kh 0 vs,fltH (σ.map Prod.snd) hpU,nx⟩=true)
  (he:EntC σ ⟨kh 0 vs,fltH (σ.map Prod.snd) hpU,nx⟩ ⟨kh 0 vs0,hp0,nx0⟩) (hc1:okC ⟨[(0,r)],hp1,nx1⟩=true)
  (hk:(qpr (x2 hp1) && hp1.all (fun q=>(lkS (newN nx0 nx (nx1 - nx0) ++ σ) q.1).isSome) && σ.all (fun q=>Nat.blt q.1 nx0 && Nat.blt q.2 nx) && Nat.ble nx0 nx1)=true) :
  x4 E f vs nx (hpF hpU) ⟨r.ren (newN nx0 nx (nx1 - nx0) ++ σ),σ.map Prod.snd,renH (newN nx0 nx (nx1 - nx0) ++ σ) hp1++outH (σ.map Prod.snd),nx+(nx1 - nx0)⟩:=fun ρ S hS=>by
 simp only at hS
 simp only [Bool.and_eq_true] at hk
 obtain⟨⟨⟨hd,hsm⟩,hσ⟩,hn⟩:=hk
 have hn:=Nat.le_of_ble_eq_true hn
 simp only [okC,Bool.and_eq_true] at hc hc1
 generalize hks : σ.map Prod.snd=ks at hS hc he ⊢
 obtain⟨m,hm⟩:∃ m,m=nx1 - nx0:=⟨_,rfl⟩
 rw [← hm] at hsm ⊢
 have hR:SatR S (qdg (fltH ks hpU) ρ) ⟨kh 0 vs,fltH ks hpU,nx⟩ ρ (argT (SV.evs ρ vs)) S:=by
  refine⟨fun d v hd=>?_,by simp only [qz1];exact hS,fun k r hk o ho=>.inr ⟨k,r,hk,ho⟩,fun _ _ _=>rfl,Nat.le_refl _,fun d v hd=>List.all_eq_true.1 hc.1 _ (xc hd),fun k r hk=>?_⟩
  ·obtain⟨j,h1,h2⟩:=qds hd
   have:(SV.evs ρ vs)[j]? = some (v.ev ρ):=by rw [yf,List.getElem?_map,h2];rfl
   rw [h1,Nat.zero_add]
   simp only [argT,List.getD,this,Option.getD_some]
  ·have:=List.all_eq_true.1 hc.2 _ (xc (y7 hk))
   simp only [Bool.and_eq_true] at this
   exact⟨xj this.1,this.2⟩
 obtain⟨t',hw,hR'⟩:=he.sat hR
 have hrc:∀ k j,lkS σ k=some j→renR σ ρ k = ρ j:=fun k j e=>by unfold renR;rw [e]
 have hrn:∀ k,lkS σ k=none→renR σ ρ k=jw:=fun k e=>by unfold renR;rw [e]
 -- where a canonical resource lies
 have foot:∀ k r,hpF hp0 k=some r→∀ o,z6 (renR σ ρ k)=some o→∃ j r',resF ks (hpF hpU) j=some r'∧z6 (ρ j)=some o:=fun k r hk o ho=>by
  have hE:=qf0 he.2.1 (y7 hk)
  simp only [qz1] at hE
  unfold entR at hE
  cases hl:lkS σ k with
  |none=>
   rw [hrn k hl] at ho
   simp [z6] at ho
  |some j=>
   rw [hrc k j hl] at ho
   rw [hl] at hE
   cases hj:resF ks (hpF hpU) j with
   |none=>cases r <;> (simp only [hj] at hE)
   |some r'=>exact⟨j,r',hj,ho⟩
 have hS0:SatF S (renR σ ρ) (hpF hp0):=hR'.hp
 refine qux (ys:=SV.evs (renR σ ρ) vs0) (by simp [yf,hl]) (fun i x y hx hy=>?_) ((h (renR σ ρ) S (by simp only [qae];exact hS0)).mono fun r' S' ⟨ρc,hr,hp⟩=>?_)
 ·have h1:=hw i
  simp only [yf,List.getElem?_map] at hy hx
  cases hv:vs0[i]? with
  |none=>rw [hv] at hy;simp at hy
  |some v=>
   rw [hv] at hy
   simp only [Option.map_some,Option.some.injEq] at hy
   have h2:=hR'.sl i v (by have:=qw1 (i0:=0) hv;rwa [Nat.zero_add] at this)
   rw [h2,hy] at h1
   have:argT (SV.evs ρ vs) i=x:=by simp only [argT,List.getD,yf,List.getElem?_map,hx,Option.getD_some]
   rw [this] at h1
   exact h1
 ·let ρ':Nat→AV:=fun j=>bif Nat.ble nx j && Nat.blt j (nx+m) then ρc (nx0+(j - nx)) else ρ j
  have hold:∀ j,(j<nx∨nx+m≤j)→ρ' j = ρ j:=fun j hj=>by
   show (bif Nat.ble nx j && Nat.blt j (nx+m) then ρc (nx0+(j - nx)) else ρ j) = ρ j
   have:(Nat.ble nx j && Nat.blt j (nx+m))=false:=by
    cases hb:(Nat.ble nx j && Nat.blt j (nx+m)) with
    |false=>rfl
    |true=>
     simp only [Bool.and_eq_true] at hb
     have h1:=Nat.le_of_ble_eq_true hb.1
     have h2:=xj hb.2
     omega
   rw [this]
   rfl
  have hnew:∀ i,i<m→ρ' (nx+i) = ρc (nx0+i):=fun i hi=>by
   show (bif Nat.ble nx (nx+i) && Nat.blt (nx+i) (nx+m) then ρc (nx0+(nx+i - nx)) else ρ (nx+i))=_
   have h1:Nat.ble nx (nx+i)=true:=Nat.ble_eq_true_of_le (by omega)
   have h2:Nat.blt (nx+i) (nx+m)=true:=qb5 (by omega)
   rw [h1,h2,show nx+i - nx=i by omega]
   rfl
  have hσj:∀ k j,lkS σ k=some j→k<nx0∧j<nx:=fun k j e=>by
   have:=List.all_eq_true.1 hσ _ (xc e)
   simp only [Bool.and_eq_true] at this
   exact⟨xj this.1,xj this.2⟩
  have hro:∀ k,k<nx0→ρc k=renR σ ρ k:=fun k hk=>hp.old k (.inl hk)
  have key:∀ k,k<nx1→renR (newN nx0 nx m ++ σ) ρ' k = ρc k:=fun k hk=>by
   have e:renR (newN nx0 nx m ++ σ) ρ' k=match lkS (newN nx0 nx m ++ σ) k with|some j=> ρ' j|none=>jw:=rfl
   rw [e,qdr,qwu]
   by_cases hkn:nx0≤k
   ·rw [if_pos ⟨hkn,by omega⟩]
    simp only
    rw [hnew _ (by omega),show nx0+(k - nx0)=k by omega]
   ·rw [if_neg (by omega),hro k (by omega)]
    simp only
    cases hl:lkS σ k with
    |none=>rw [hrn k hl]
    |some j=>
     rw [hrc k j hl]
     exact hold j (.inl (hσj k j hl).2)
  have keyj:∀ k,k<nx1→(lkS (newN nx0 nx m ++ σ) k).isSome=true→ρ' (nmOf (newN nx0 nx m ++ σ) k) = ρc k:=fun k hk hs=>by
   rw [← key k hk]
   unfold renR nmOf
   cases hl:lkS (newN nx0 nx m ++ σ) k with
   |none=>rw [hl] at hs;simp at hs
   |some j=>rfl
  have res:∀ j rr,chF (renH (newN nx0 nx m ++ σ) hp1++outH ks) (resF ks (hpF hpU)) j=some rr→∃ k r,hpF hp1 k=some r∧nmOf (newN nx0 nx m ++ σ) k=j∧rr=r.ren (newN nx0 nx m ++ σ)∧ρ' j = ρc k∧r.all (fun k=>Nat.blt k nx1)=true:=fun j rr hj=>by
   unfold chF at hj
   rw [qdr] at hj
   cases hl:lkS (renH (newN nx0 nx m ++ σ) hp1) j with
   |some x=>
    rw [hl] at hj
    simp only at hj
    subst hj
    obtain⟨k,r,h1,h2,h3⟩:=qz4 hl
    have h4:=List.all_eq_true.1 hc1.2 _ h1
    simp only [Bool.and_eq_true] at h4
    have h5:=List.all_eq_true.1 hsm _ h1
    refine⟨k,r,qst hd h1,h2,h3,?_,h4.2⟩
    rw [← h2]
    exact keyj k (xj h4.1) h5
   |none=>
    rw [hl] at hj
    simp only [qz3] at hj
    cases hmm:memN ks j with
    |true=>rw [hmm] at hj;simp at hj
    |false=>
     rw [hmm] at hj
     simp [resF,hmm] at hj
  have hra:r.all (fun k=>Nat.blt k nx1)=true:=List.all_eq_true.1 hc1.1 (0,r) (by simp)
  refine⟨ρ',?_,fun k hk=>hold k hk,⟨fun j rr hj=>?_,fun j j' rr rr' hne h1 h2 o ho=>?_⟩,hp.len,fun j hj hnj=>?_,fun j rr hj o ho=>?_⟩
  ·rw [hr]
   simp only
   rw [qqx]
   exact (qcx (fun k hk=>key k (xj hk)) r hra).symm
  ·obtain⟨k,r0,h1,h2,rfl,h4,h5⟩:=res j rr hj
   rw [h4]
   have hsat:=hp.sat
   simp only [qae,qfw] at hsat
   have hok:=hsat.ok k r0 h1
   cases r0 with
   |cells T cs=>
    obtain⟨o,v,g1,g2,g3⟩:=hok
    refine⟨o,v,g1,?_,g3⟩
    rw [qea,qbo (fun k hk=>key k (xj hk)) cs h5]
    exact g2
   |tip sz T xs=>exact hok
   |own sz T xs=>exact hok
   |obj P=>exact hok
   |rows T ys cs=>
    show OwnS _ 1 T (ys++SV.evs _ (SV.rens _ cs)) _
    rw [qea,qbo (fun k hk=>key k (xj hk)) cs h5]
    exact hok
  ·obtain⟨k,r0,h3,h4,_,h5,_⟩:=res j rr h1
   obtain⟨k',r0',h3',h4',_,h5',_⟩:=res j' rr' h2
   rw [h5] at ho
   rw [h5']
   have hsat:=hp.sat
   simp only [qae,qfw] at hsat
   exact hsat.sep k k' r0 r0' (fun e=>hne (by rw [← h4,← h4',e])) h3 h3' o ho
  ·refine hp.fr j hj fun k r0 hk hlo=>?_
   simp only [qae] at hk
   obtain⟨j',r',g1,g2⟩:=foot k r0 hk j hlo
   exact hnj j' r' g1 g2
  ·obtain⟨k,r0,h1,h2,_,h4,_⟩:=res j rr hj
   rw [h4] at ho
   have hlc:=hp.loc k r0 (by simp only [qae,qfw];exact h1) o ho
   rcases hlc with g | ⟨k',r',g1,g2⟩
   ·exact .inl g
   ·simp only [qae] at g1
    obtain⟨j',r'',g3,g4⟩:=foot k' r' g1 o g2
    exact .inr ⟨j',r'',g3,g4⟩
def useW (vs0:List SV) (hp0:List (Nat×Option SR)) (nx0:Nat) (r:SV) (hp1:List (Nat×Option SR)) (nx1:Nat) (hpU:List (Nat×Option SR)) (vs:List SV) (nx:Nat) (k:Ef→Prop):Prop:=
 fcP (addS [] (prsL vs0 vs)) fun a=>fcP (addS a (sigH (hpF hpU) a hp0)) fun σ=>
  vs.length=vs0.length∧okC ⟨kh 0 vs,fltH (σ.map Prod.snd) hpU,nx⟩=true∧EntC σ ⟨kh 0 vs,fltH (σ.map Prod.snd) hpU,nx⟩ ⟨kh 0 vs0,hp0,nx0⟩∧okC ⟨[(0,r)],hp1,nx1⟩=true ∧
   (qpr (x2 hp1) && hp1.all (fun q=>(lkS (newN nx0 nx (nx1 - nx0) ++ σ) q.1).isSome) && σ.all (fun q=>Nat.blt q.1 nx0 && Nat.blt q.2 nx) && Nat.ble nx0 nx1)=true ∧
   k ⟨r.ren (newN nx0 nx (nx1 - nx0) ++ σ),σ.map Prod.snd,renH (newN nx0 nx (nx1 - nx0) ++ σ) hp1++outH (σ.map Prod.snd),nx+(nx1 - nx0)⟩
theorem kl {E:Env} {f:FuncId} {vs0:List SV} {hp0:List (Nat×Option SR)} {nx0:Nat} {r:SV} {hp1:List (Nat×Option SR)} {nx1:Nat} (h:x4 E f vs0 nx0 (hpF hp0) ⟨r,x2 hp0,hp1++ym hp0,nx1⟩) {hpU:List (Nat×Option SR)} {vs:List SV} {nx:Nat} {k:Ef→Prop}
  (hw:useW vs0 hp0 nx0 r hp1 nx1 hpU vs nx k):∃ e,x4 E f vs nx (hpF hpU) e∧k e:=by
 unfold useW at hw
 simp only [qv2] at hw
 obtain⟨h1,h2,h3,h4,h5,h6⟩:=hw
 exact⟨_,zbw h _ h1 h2 h3 h4 h5,h6⟩
theorem q85 {l m:List AV} (hl:l.length=m.length) (h:∀ (i:Nat) (x y:AV),l[i]? = some x→m[i]? = some y→Wk x y):Wk (.pp l) (.pp m):=fun G v hr=>by
 cases hr with
 |pp _ b off pub hp hlen hr=>
  refine .pp m b off pub hp (by omega) fun i y z hy hz=>?_
  have hi:i<l.length:=by have:=lt_of_getElem? hy;omega
  have hx:l[i]? = some l[i]:=List.getElem?_eq_getElem hi
  exact h i _ y hx hy G z (hr i _ z hx hz)
theorem qvj {E:Env} {fn:Func} {R:AV→List AObj→Prop} {s:AS} {d o ver:Nat} {T:TypeId} {cs xs:List AV} (hi:s.t d = .bx o ver 0) (ho:s.st[o]? = some (.cells ver T cs)) (hw:Wk (.pp cs) (.pp xs))
  (h:ARet E fn R ⟨Av.put s.t d (.pp xs),s.st.set o .dead,s.df⟩):ARet E fn R s:=
 ⟨fun B0 w0 G a w hL hI R2 hR=>by
  obtain⟨G1,h1,h2⟩:=hI.pub hi ho
  refine h.run B0 w0 G1 a w hL ⟨h2.agree,h2.defers,h2.size,fun j y hy=>?_⟩ R2 fun v G' r st' w' hG=>hR v G' r st' w' (h1.trans hG)
  have hj:=h2.tmps j y hy
  by_cases e:j=d
  ·subst e
   simp only [y8] at hj ⊢
   exact hw G1 y hj
  ·simp only at hj ⊢
   rw [qbj _ _ _ _ e] at hj ⊢
   exact hj⟩
theorem q3c {E:Env} {fn:Func} {R:AV→List AObj→Prop} {s:AS} {d o ver o2 ver2 sz cap:Nat} {T T2:TypeId} {cs xs ys pad:List AV} (hi:s.t d = .bx o ver 0) (ho:s.st[o]? = some (.cells ver T cs)) (ho2:s.st[o2]? = some (.cells ver2 T2 (flat ys++pad))) (hne:o≠o2) (hw:∀ y∈ys,y.cells.length=sz) (hc:ys.length≤cap) (hl:cs.length=xs.length)
  (hx:∀ (i:Nat) (x y:AV),cs[i]? = some x→xs[i]? = some y→Wk x y∨(x = .os o2 ver2 0 ys.length cap∧y = .sl sz ys none)) (h:ARet E fn R ⟨Av.put s.t d (.pp xs),(s.st.set o .dead).set o2 .dead,s.df⟩):ARet E fn R s:=
 ⟨fun B0 w0 G a w hL hI R2 hR=>by
  obtain⟨G1,h1,h2⟩:=hI.pub hi ho
  have ho3:(s.st.set o .dead)[o2]? = some (.cells ver2 T2 (flat ys++pad)):=(List.getElem?_set_ne hne).trans ho2
  obtain⟨vs,hle,hA,hv,hp,hl2,hr⟩:=h2.agree.pubOb ho3
  refine h.run B0 w0 _ a w hL ⟨hA,h2.defers_mono hle,h2.size,fun j y hy=>?_⟩ R2 fun v G' r st' w' hG=>hR v G' r st' w' (h1.trans (hle.trans hG))
  have hj:=(h2.tmps j y hy).mono hle
  by_cases e:j=d
  ·subst e
   simp only [y8] at hj ⊢
   cases hj with
   |pp _ b off pub hp2 hlen hrel=>
    refine .pp xs b off pub hp2 (by omega) fun i z u hz hu=>?_
    have hi:i<cs.length:=by have:=lt_of_getElem? hz;omega
    have hg:cs[i]? = some cs[i]:=List.getElem?_eq_getElem hi
    have hrl:=hrel i _ u hg hu
    rcases hx i _ z hg hz with hw1 | ⟨e1,rfl⟩
    ·exact hw1 _ _ hrl
    ·rw [e1] at hrl
     cases hrl with
     |os _ _ _ _ bl _ hn hv' hb=>
      have hb:=hb hv
      subst hb
      refine .sl sz ys none _ 0 cap vs hp hw (by rw [← hl2];simp) (fun k x y g1 g2=>hr k x y (by rw [List.getElem?_append_left (lt_of_getElem? g1)];exact g1) (by simpa using g2)) (fun t ht=>by simp at ht) hc
  ·simp only at hj ⊢
   rw [qbj _ _ _ _ e] at hj ⊢
   exact hj⟩
theorem q9b {E:Env} {fn:Func} {R:AV→List AObj→Prop} {s:AS} {d o ver sz cap:Nat} {T:TypeId} {ys pad:List AV} (hi:s.t d = .os o ver 0 ys.length cap) (ho:s.st[o]? = some (.cells ver T (flat ys++pad))) (hw:∀ y∈ys,y.cells.length=sz) (hc:ys.length≤cap)
  (h:ARet E fn R ⟨Av.put s.t d (.sl sz ys none),s.st.set o .dead,s.df⟩):ARet E fn R s:=
 ⟨fun B0 w0 G a w hL hI R2 hR=>by
  obtain⟨G1,h1,h2⟩:=hI.osPub (xs:=ys) (sz:=sz) hi ho rfl hc hw (by rw [List.length_append,jn hw];omega) (by rw [List.drop_zero,← jn hw,List.take_left])
  exact h.run B0 w0 G1 a w hL h2 R2 fun v G' r st' w' hG=>hR v G' r st' w' (h1.trans hG)⟩
def q45 (H:Nat→Option SR):SV→Option (Nat×Nat×List AV)
 | .tp k=>(match H k with
  |some (.own sz _ ys)=>some (k,sz,ys)
  | _=>none)
 | _=>none
def qqn (H:Nat→Option SR):List SV→Option (Nat×Nat×List AV)
 | []=>none
 |c::r=>(match q45 H c with
  |some x=>some x
  |none=>qqn H r)
theorem qxb {H:Nat→Option SR} {j sz:Nat} {ys:List AV}:∀ {cs:List SV},qqn H cs=some (j,sz,ys)→∃ T,H j=some (.own sz T ys)
 | [],h=>by simp [qqn] at h
 |c::r,h=>by
  simp only [qqn] at h
  split at h
  ·rename_i x hx
   simp only [Option.some.injEq] at h
   subst h
   unfold q45 at hx
   split at hx
   ·split at hx
    ·rename_i hk
     simp only [Option.some.injEq,Prod.mk.injEq] at hx
     obtain⟨rfl,rfl,rfl⟩:=hx
     exact⟨_,hk⟩
    ·simp at hx
   ·simp at hx
  ·exact qxb (cs:=r) h
def frzJ (H:Nat→Option SR) (j sz:Nat) (ys:List AV):List SV→Option (List AV)
 | []=>some []
 |c::r=>(match (match c with
   | .tp k=>bif Nat.beq k j then some (.sl sz ys none) else frz H (.tp k)
   |c=>frz H c),frzJ H j sz ys r with
  |some x,some l=>some (x::l)
  | _,_=>none)
theorem qzz {S:List AObj} {ρ : Nat→AV} {H:Nat→Option SR} (hS:SatF S ρ H) {j sz:Nat} {ys:List AV}:∀ (cs:List SV) (xs:List AV),frzJ H j sz ys cs=some xs→(SV.evs ρ cs).length=xs.length∧∀ (i:Nat) (x y:AV),(SV.evs ρ cs)[i]? = some x→xs[i]? = some y→Wk x y∨(x=tpAt (ρ j)∧y = .sl sz ys none)
 | [],xs,h=>by simp only [frzJ,Option.some.injEq] at h;subst h;exact⟨rfl,by simp [SV.evs]⟩
 |c::r,xs,h=>by
  simp only [frzJ] at h
  split at h
  ·rename_i x l h1 h2
   simp only [Option.some.injEq] at h
   subst h
   obtain⟨g1,g2⟩:=qzz hS r l h2
   refine⟨by simp [SV.evs,g1],fun i a b ha hb=>?_⟩
   cases i with
   |zero=>
    simp only [SV.evs,List.getElem?_cons_zero,Option.some.injEq] at ha hb
    subst ha
    subst hb
    split at h1
    ·rename_i k
     cases hkj:Nat.beq k j with
     |true=>
      rw [hkj] at h1
      simp only [cond_true,Option.some.injEq] at h1
      rw [Nat.eq_of_beq_eq_true hkj]
      exact .inr ⟨rfl,h1.symm⟩
     |false=>
      rw [hkj] at h1
      exact .inl (qhu hS _ _ h1)
    ·exact .inl (qhu hS _ _ h1)
   |succ i=>exact g2 i a b (by simpa [SV.evs] using ha) (by simpa using hb)
  ·simp at h
def pubK (k:Conf→Prop):List ResultVar→Conf→Prop
 | [],C=>k C
 | .tmp t::r,C=>(match lkS C.sl t with
  |some (.bx b 0)=>(match hpF C.hp b with
   |some (.cells _ cs)=>(match qqn (hpF C.hp) cs with
    |some (j,sz,ys)=>(match frzJ (hpF C.hp) j sz ys cs with
     |some xs=>pubK k r ⟨(t,.a (.pp xs))::C.sl,(j,none)::(b,none)::C.hp,C.nx⟩
     |none=>pubK k r C)
    |none=>(match frzs (hpF C.hp) cs with
     |some xs=>pubK k r ⟨(t,.a (.pp xs))::C.sl,(b,none)::C.hp,C.nx⟩
     |none=>pubK k r C))
   | _=>pubK k r C)
  |some (.tp b)=>(match hpF C.hp b with
   |some (.own sz _ ys)=>pubK k r ⟨(t,.a (.sl sz ys none))::C.sl,(b,none)::C.hp,C.nx⟩
   | _=>pubK k r C)
  | _=>pubK k r C)
 | _::r,C=>pubK k r C
theorem SatR.drop {S0:List AObj} {F:Nat→Prop} {C:Conf} {ρ t:Nat→AV} {S:List AObj} (h:SatR S0 F C ρ t S) {b o:Nat} {q:SR} (hb:hpF C.hp b=some q) (ho:∀ o',z6 (ρ b)=some o'→o'=o) (hd:z6 (ρ b)=some o∨S.set o .dead=S) :
  SatR S0 F ⟨C.sl,(b,none)::C.hp,C.nx⟩ ρ t (S.set o .dead):=by
 have hget:∀ k r,hpF ((b,none)::C.hp) k=some r→k≠b∧hpF C.hp k=some r:=fun k r hk=>by
  unfold hpF at hk ⊢
  simp only [lkS] at hk
  by_cases e:b=k
  ·subst e;simp at hk
  ·rw [wb e] at hk
   exact⟨fun h=>e h.symm,hk⟩
 rcases hd with hd|hd
 ·refine⟨h.sl,⟨fun k r hk=>?_,fun k k' r r' hne hk hk'=>h.hp.sep k k' r r' hne (hget k r hk).2 (hget k' r' hk').2⟩,fun k r hk=>h.own k r (hget k r hk).2,fun j hj hF=>?_,by simpa using h.len,h.wsl,fun k r hk=>h.whp k r (hget k r hk).2⟩
  ·obtain⟨hne,hk⟩:=hget k r hk
   refine SR.ok_of (f:=fun _=>true) (SR.all_mono (fun _ _=>rfl) r (h.whp k r hk).2) (fun _ _=>rfl) (h.hp.ok k r hk) fun j hj=>?_
   have:o≠j:=fun e=>h.hp.sep b k _ r (fun e=>hne e.symm) hb hk o hd (e▸hj)
   rw [List.getElem?_set_ne this]
  ·have:o≠j:=fun e=>by
    rcases h.own b _ hb o hd with g|g
    ·omega
    ·exact hF (e▸g)
   rw [List.getElem?_set_ne this]
   exact h.low j hj hF
 ·rw [hd]
  exact⟨h.sl,⟨fun k r hk=>h.hp.ok k r (hget k r hk).2,fun k k' r r' hne hk hk'=>h.hp.sep k k' r r' hne (hget k r hk).2 (hget k' r' hk').2⟩,fun k r hk=>h.own k r (hget k r hk).2,h.low,h.len,h.wsl,fun k r hk=>h.whp k r (hget k r hk).2⟩
theorem SatR.slot {S0:List AObj} {F:Nat→Prop} {C:Conf} {ρ t:Nat→AV} {S:List AObj} (h:SatR S0 F C ρ t S) (d:Nat) {y:AV}:SatR S0 F ⟨(d,.a y)::C.sl,C.hp,C.nx⟩ ρ (Av.put t d y) S:=by
 refine⟨fun x v hx=>?_,h.hp,h.own,h.low,h.len,fun x v hx=>?_,h.whp⟩
 ·simp only [lkS] at hx
  by_cases e:d=x
  ·subst e
   simp at hx
   subst hx
   exact y8 _ _ _
  ·rw [wb e] at hx
   simp only [cond_false] at hx
   exact (qbj _ _ _ _ (fun h=>e h.symm)).trans (h.sl x v hx)
 ·simp only [lkS] at hx
  by_cases e:d=x
  ·subst e
   simp at hx
   subst hx
   rfl
  ·rw [wb e] at hx
   exact h.wsl x v hx
theorem SatR.pub {S0:List AObj} {F:Nat→Prop} {C:Conf} {ρ t:Nat→AV} {S:List AObj} (h:SatR S0 F C ρ t S) {d b o:Nat} {T:TypeId} {cs:List SV} {xs:List AV} (hb:hpF C.hp b=some (.cells T cs)) (ho:z6 (ρ b)=some o) :
  SatR S0 F ⟨(d,.a (.pp xs))::C.sl,(b,none)::C.hp,C.nx⟩ ρ (Av.put t d (.pp xs)) (S.set o .dead):=
 (h.drop hb (fun o' ho'=>by rw [ho] at ho';simpa using ho'.symm) (.inl ho)).slot d
theorem q9c {E:Env} {fn:Func} {R:AV→List AObj→Prop} {s:AS} {d:Nat} {x r:AV} (hi:s.t d=x) (hw:Wk x r) (h:ARet E fn R ⟨Av.put s.t d r,s.st,s.df⟩):ARet E fn R s:=
 ⟨fun B0 w0 G a w hL hI R2 hR=>h.run B0 w0 G a w hL ⟨hI.agree,hI.defers,hI.size,fun j y hy=>by
  have hj:=hI.tmps j y hy
  by_cases e:j=d
  ·subst e
   simp only [y8]
   rw [hi] at hj
   exact hw G y hj
  ·simp only
   rw [qbj _ _ _ _ e]
   exact hj⟩ R2 hR⟩
theorem qb3 {E:Env} {fn:Func} {R:AV→List AObj→Prop} {S0:List AObj} {F:Nat→Prop} {ρ : Nat→AV} {k:Conf→Prop} (hk:∀ C t S,k C→SatR S0 F C ρ t S→ARet E fn R ⟨t,S,[]⟩):∀ {l:List ResultVar} {C:Conf} {t:Nat→AV} {S:List AObj},pubK k l C→SatR S0 F C ρ t S→ARet E fn R ⟨t,S,[]⟩
 | [],C,t,S,h,hR=>hk C t S h hR
 | .cell _ _::r,C,t,S,h,hR=>qb3 hk (l:=r) h hR
 | .tmp d::r,C,t,S,h,hR=>by
  simp only [pubK] at h
  split at h
  ·rename_i b hd
   split at h
   ·rename_i T cs hb
    obtain⟨o,v,e1,e2,e3⟩:=hR.hp.ok b _ hb
    have ht:=hR.sl d _ hd
    simp only [SV.ev,e1,bxAt] at ht
    split at h
    ·rename_i j sz ys hj
     split at h
     ·rename_i xs hx
      obtain⟨T2,hj⟩:=qxb hj
      obtain⟨w1,w2⟩:=qzz hR.hp cs xs hx
      have hbj:b≠j:=fun e=>by subst e;rw [hb] at hj;simp at hj
      have hP:=hR.pub (d:=d) (xs:=xs) hb (by rw [e1];rfl)
      have hj2:hpF ((b,none)::C.hp) j=some (.own sz T2 ys):=by
       unfold hpF at hj ⊢
       simp only [lkS,wb hbj,cond_false]
       exact hj
      rcases hR.hp.ok j _ hj with⟨rfl,f1⟩ | ⟨o2,ver2,cap,pad,f1,f2,f3,f4,f5,f6⟩
      ·refine qvj ht e2 (q85 w1 fun i x y hx hy=>?_) (qb3 hk (l:=r) h ?_)
       ·rcases w2 i x y hx hy with g | ⟨g1,g2⟩
        ·exact g
        ·subst g1 g2
         unfold tpAt
         rw [f1.one]
         exact f1.wk sz
       ·have:=hP.drop (o:=S.length) hj2 (fun o' ho'=>by rw [f1.loc] at ho';simp at ho') (.inr (List.set_eq_of_length_le (by simp)))
        rwa [List.set_eq_of_length_le (by simp)] at this
      ·have hne:o≠o2:=fun e=>hR.hp.sep b j _ _ hbj hb hj o (by rw [e1];rfl) (by rw [f1,e];rfl)
       refine q3c ht e2 f2 hne f4 f5 w1 (fun i x y hx hy=>?_) (qb3 hk (l:=r) h (hP.drop hj2 (fun o' ho'=>?_) (.inl (by rw [f1];rfl))))
       ·rcases w2 i x y hx hy with g | ⟨g1,g2⟩
        ·exact .inl g
        ·exact .inr ⟨by rw [g1,f1];rfl,g2⟩
       ·rw [f1] at ho'
        simpa [z6] using ho'.symm
     ·exact qb3 hk (l:=r) h hR
    ·split at h
     ·rename_i xs hx
      obtain⟨w1,w2⟩:=qe6 hR.hp cs xs hx
      exact qvj ht e2 (q85 w1 w2) (qb3 hk (l:=r) h (hR.pub hb (by rw [e1];rfl)))
     ·exact qb3 hk (l:=r) h hR
   ·exact qb3 hk (l:=r) h hR
  ·rename_i b hd
   split at h
   ·rename_i sz T ys hb
    have ht:=hR.sl d _ hd
    have hok:=hR.hp.ok b _ hb
    simp only [SV.ev,qoz hok] at ht
    rcases hok with⟨rfl,f1⟩ | ⟨o,ver,cap,pad,f1,f2,f3,f4,f5,f6⟩
    ·have hP:=hR.drop (o:=S.length) hb (fun o' ho'=>by rw [f1.loc] at ho';simp at ho') (.inr (List.set_eq_of_length_le (by simp)))
     rw [List.set_eq_of_length_le (by simp)] at hP
     exact q9c ht (f1.wk sz) (qb3 hk (l:=r) h (hP.slot d))
    ·rw [f1] at ht
     have hP:=hR.drop (o:=o) hb (fun o' ho'=>by rw [f1] at ho';simpa [z6] using ho'.symm) (.inl (by rw [f1];rfl))
     exact q9b ht f2 f4 f5 (qb3 hk (l:=r) h (hP.slot d))
   ·exact qb3 hk (l:=r) h hR
  ·exact qb3 hk (l:=r) h hR
def retP (P:Program) (fn:Func) (r0:AV) (e:Exit) (C:Conf):Prop:=
 match e with
 | .normal=>pubK (fun C=>ansW P fn C fun y=>Tl y r0) fn.results.toList C
 | .ret=>pubK (fun C=>ansW P fn C fun y=>Tl y r0) fn.results.toList C
 | _=>False
theorem qxi {E:Env} {f:FuncId} {fn:Func} {c:Code} {args:List AV} {st:List AObj} {r0:AV} (vs:List SV) (hp:Pure r0) (hf:E.P.funcs[f]? = some fn) (hb:fn.body=some c) (hn:Nat.ble args.length fn.ntmps=true) (hv:∀ ρ,SV.evs ρ vs=args) (hc:okC ⟨kh 0 vs,[],0⟩=true)
  (h:∀ S0,numK 0 vs fun sl=>Sm E none fn.ntmps ⟨S0,fun _=>False,fun _=>jw,0,False⟩ c (retP E.P fn r0) ⟨sl,[],0⟩):qp E f args st fun r st'=>r=r0∧st'=st:=by
 simp only [qms] at h
 refine zi hp (qt hf hb (Nat.le_of_ble_eq_true hn) ?_)
 have hst:SatC ⟨st++[],fun _=>False,fun _=>jw,0,False⟩ ⟨kh 0 vs,[],0⟩ ⟨argT args,st++[],[]⟩:=by
  refine⟨fun _=>jw,⟨nofun,List.nodup_nil,fun _ _=>rfl,Nat.le_refl _,nofun⟩,⟨fun d v hd=>?_,⟨fun k r hk=>?_,fun k k' r r' _ hk=>?_⟩,fun k r hk=>?_,fun _ _ _=>rfl,Nat.le_refl _,fun d v hd=>?_,fun k r hk=>?_⟩⟩
  ·obtain⟨j,h1,h2⟩:=qds hd
   have:args[j]? = some (v.ev fun _=>jw):=by rw [← hv fun _=>jw,yf,List.getElem?_map,h2];rfl
   rw [h1,Nat.zero_add]
   simp only [argT,List.getD,this,Option.getD_some]
  ·simp [hpF,lkS] at hk
  ·simp [hpF,lkS] at hk
  ·simp [hpF,lkS] at hk
  ·simp only [okC,Bool.and_eq_true] at hc
   exact List.all_eq_true.1 hc.1 _ (xc hd)
  ·simp [hpF,lkS] at hk
 refine ((h (st++[])).run _ hst).mono fun e s' ⟨C',hq,hs'⟩=>?_
 obtain⟨t,S,df⟩:=s'
 obtain⟨ρ,hdf,hR⟩:=hs'
 simp only at hdf hR
 have fin:pubK (fun C=>ansW E.P fn C fun y=>Tl y r0) fn.results.toList C'→ARet E fn (fun r st2=>r=r0∧∃ ext,st2=st++ext) ⟨t,S,df⟩:=fun h=>by
  refine qgw hR (fun x hx=>hdf.dm x hx) hdf.nd fun S' hR'=>?_
  refine qb3 (fun C t S h hR'=>?_) h hR'
  obtain⟨y,h1,h2⟩:=qzr hR' h
  refine qq rfl (qbn h1 h2.ok) ⟨rfl,?_⟩
  have hl:=hR'.len
  rw [List.append_nil] at hl
  exact qjx hl fun k hk=>by
   have:=hR'.low k (by simpa using hk) (fun h=>h)
   rw [List.append_nil] at this
   exact this
 cases e with
 |normal=>exact fin hq
 |ret=>exact fin hq
 | _=>exact hq.elim
section
variable {E : Env} {N : Nat} {ops : Array Oper} {nx : Nat} {sl : List (Nat × SV)} {H : Nat → Option SR} {k : Ef → Prop} {d : Option Tmp} {T : TypeId} {p : String} {af : Array Edge}
theorem qom {t e e':TypeId} {x y:Operand} {b sz i:Nat} {agg:Bool} {xs:List AV} {kd:IntKind} {v:SV} (hx:sval N sl x=some (.tp b)) (hH:H b=some (.own sz e xs)) (hy:sval N sl y=some v) (hv:qd2 v=some (kd,(i:Int))) (he:elT (E.P.underlying t)=some e') (ht:tyOf E.P e'=some (sz,agg)) (hi:i<xs.length)
  (h:k ⟨.bx b (0+i * sz),[b],[],nx⟩):∃ e,Loc E N ops ⟨d,.indexAddr t x y,T,p,af,none⟩ nx sl H e∧k e:=by
 refine⟨_,qax (v:=.bx b (0+i * sz)) fun df rd K rest ρ t' S hs hS hk=>?_,h⟩
 rcases hS.ok b _ ((y9 b).trans hH) with⟨rfl,_⟩ | ⟨o,ver,cap,pad,e1,e2,_⟩
 ·simp at hi
 ·refine qm3 (o:=o) (ver:=ver) (off:=0) (len:=xs.length) (cp:=cap+1) ((q6 hs hx).trans (by simp [SV.ev,e1,tpAt,AV.one])) ((q6 hs hy).trans (qbv hv ρ)) (qdn he) ht rfl hi ?_
  simpa only [SV.ev,e1,bxAt] using hk
theorem q35 {sz i j sz':Nat} {agg:Bool} {xs pad:List AV} {z r:AV} (hw:∀ x∈xs,x.cells.length=sz) (hz:xs[i]? = some z) (hr:xi sz' agg j z.cells=some r) (hj:j+sz'≤sz) (h1:agg=false→0<sz'):xi sz' agg (0+i * sz+j) (flat xs++pad)=some r:=by
 have hg:=q0l (pad:=pad) hw hz
 have hzl:=hw z (List.mem_of_getElem? hz)
 have hlen:i * sz+sz≤(flat xs++pad).length:=by
  have:=congrArg List.length hg
  simp only [List.length_take,List.length_drop] at this
  have h1:i * sz≤xs.length * sz:=Nat.mul_le_mul_right _ (by have:=lt_of_getElem? hz;omega)
  have h2:(flat xs++pad).length=xs.length * sz+pad.length:=by rw [List.length_append,jn hw]
  omega
 unfold xi at hr ⊢
 rw [Nat.zero_add]
 cases agg with
 |true=>
  simp only [cond_true] at hr ⊢
  have b1:Nat.ble (i * sz+j+sz') (flat xs++pad).length=true:=Nat.ble_eq_true_of_le (by omega)
  have b2:Nat.ble (j+sz') z.cells.length=true:=Nat.ble_eq_true_of_le (by omega)
  rw [b2] at hr
  rw [b1]
  simp only [cond_true] at hr ⊢
  rw [← hr,← hg]
  congr 2
  apply List.ext_getElem?
  intro q
  simp only [List.getElem?_take,List.getElem?_drop]
  by_cases hq:q<sz'
  ·rw [if_pos hq,if_pos hq,if_pos (by omega)]
   congr 1
   omega
  ·rw [if_neg hq,if_neg hq]
 |false=>
  simp only [cond_false] at hr ⊢
  have:=h1 rfl
  rw [← hr,← hg,List.getElem?_take_of_lt (by omega),List.getElem?_drop]
theorem qxc {t e:TypeId} {x:Operand} {b off sz i j sz':Nat} {agg:Bool} {xs:List AV} {z r:AV} (hx:sval N sl x=some (.bx b off)) (hH:H b=some (.own sz e xs)) (ht:tyOf E.P t=some (sz',agg)) (ho:off=0+i * sz+j) (hz:xs[i]? = some z) (hr:xi sz' agg j z.cells=some r) (hj:(Nat.ble (j+sz') sz && (agg ||Nat.blt 0 sz'))=true)
  (h:k ⟨nf r,[b],[],nx⟩):∃ e,Loc E N ops ⟨d,.load t x,T,p,af,none⟩ nx sl H e∧k e:=by
 simp only [Bool.and_eq_true,Bool.or_eq_true] at hj
 refine⟨_,qax (v:=nf r) fun df rd K rest ρ t' S hs hS hk=>?_,h⟩
 rcases hS.ok b _ ((y9 b).trans hH) with⟨rfl,_⟩ | ⟨o,ver,cap,pad,e1,e2,e3,e4,_⟩
 ·simp at hz
 ·subst ho
  refine ya (o:=o) (ver:=ver) (off:=0+i * sz+j) ((q6 hs hx).trans (by simp only [SV.ev,e1,bxAt])) e2 ht (q35 e4 hz hr (Nat.le_of_ble_eq_true hj.1) fun e=>?_) (by rw [← qkb ρ r];exact hk)
  rcases hj.2 with h|h
  ·rw [e] at h;simp at h
  ·exact xj h
theorem qq1 (A Z B us:List AV) (j:Nat) (h:j+us.length≤Z.length):jz (A++Z++B) (A.length+j) us=A++jz Z j us++B:=by
 unfold jz
 rw [List.append_assoc A Z B,List.take_length_add_append,List.take_append_of_le_length (by omega),Nat.add_assoc,List.drop_length_add_append,List.drop_append_of_le_length (by omega)]
 simp
theorem q1k {sz i j:Nat} {xs pad us:List AV} {z z':AV} (hw:∀ x∈xs,x.cells.length=sz) (hz:xs[i]? = some z) (hz':z'.cells=jz z.cells j us) (hj:j+us.length≤sz):jz (flat xs++pad) (0+i * sz+j) us=flat (xs.set i z')++pad∧z'.cells.length=sz:=by
 have hzl:=hw z (List.mem_of_getElem? hz)
 have hl:z'.cells.length=sz:=by rw [hz'];simp [jz];omega
 have hi:=lt_of_getElem? hz
 refine⟨?_,hl⟩
 rw [← qn9 hw hl hi]
 have hg:=q0l (pad:=pad) hw hz
 have hA:((flat xs++pad).take (i * sz)).length=i * sz:=by
  have h1:i * sz≤xs.length * sz:=Nat.mul_le_mul_right _ (by omega)
  rw [List.length_take,List.length_append,jn hw]
  omega
 generalize flat xs++pad=cs at hg hA
 have hcs:cs=cs.take (i * sz)++z.cells++(cs.drop (i * sz)).drop sz:=by
  rw [← hg,List.append_assoc,List.take_append_drop,List.take_append_drop]
 have e1:=qq1 (cs.take (i * sz)) z.cells ((cs.drop (i * sz)).drop sz) us j (by omega)
 have e2:=qq1 (cs.take (i * sz)) z.cells ((cs.drop (i * sz)).drop sz) z'.cells 0 (by omega)
 rw [hA,← hcs] at e1 e2
 have e3:jz z.cells 0 z'.cells=z'.cells:=by
  unfold jz
  rw [Nat.zero_add,List.drop_eq_nil_of_le (by omega)]
  simp
 rw [Nat.add_zero,e3] at e2
 rw [Nat.zero_add,e1,e2,hz']
theorem q47 {t e:TypeId} {x y:Operand} {b off sz i j sz':Nat} {agg:Bool} {xs:List AV} {z z' u:AV} {v:SV} (hx:sval N sl x=some (.bx b off)) (hy:sval N sl y=some v) (hv:∀ ρ,v.ev ρ = u) (hH:H b=some (.own sz e xs)) (ht:tyOf E.P t=some (sz',agg)) (ho:off=0+i * sz+j) (hz:xs[i]? = some z) (hz':z'.cells=jz z.cells j u.cells)
  (hj:(u.okc && Nat.beq u.cells.length sz' && wj u.cells && Nat.ble (j+sz') sz)=true) (h:k ⟨.a (.v undef),[b],[(b,some (.own sz e (xs.set i z')))],nx⟩):∃ e,Loc E N ops ⟨d,.store t x y,T,p,af,none⟩ nx sl H e∧k e:=by
 simp only [Bool.and_eq_true] at hj
 obtain⟨⟨⟨j1,j2⟩,j3⟩,j4⟩:=hj
 have j2:=Nat.eq_of_beq_eq_true j2
 have j4:=Nat.le_of_ble_eq_true j4
 refine⟨_,fun df rd K rest ρ t' S hs hS hk=>?_,h⟩
 have hok:=hS.ok b _ ((y9 b).trans hH)
 rcases hok with⟨rfl,_⟩ | ⟨o,ver,cap,pad,e1,e2,e3,e4,e5,e6⟩
 ·simp at hz
 ·subst ho
  obtain⟨q1,q2⟩:=q1k (pad:=pad) e4 hz hz' (by omega)
  have hlt:=lt_of_getElem? hz
  refine qfi (o:=o) (ver:=ver) (off:=0+i * sz+j) (xs:=u.cells) ((q6 hs hx).trans (by simp only [SV.ev,e1,bxAt])) ((q6 hs hy).trans (hv ρ)) e2 ht j1 rfl j2 (by simpa [wj] using j3) (by
   have h1:i * sz+sz≤xs.length * sz:=by rw [← Nat.succ_mul];exact Nat.mul_le_mul_right _ hlt
   rw [List.length_append,jn e4]
   omega) ?_
  rw [q1]
  have hw':∀ y∈xs.set i z',y.cells.length=sz:=fun y hy=>by
   rcases List.mem_or_eq_of_mem_set hy with h|rfl
   ·exact e4 y h
   ·exact q2
  have key:∀ k r,chF [(b,some (.own sz e (xs.set i z')))] (resF [b] H) k=some r→k=b∧r = .own sz e (xs.set i z'):=fun k r hk=>by
   simp only [chF,lkS] at hk
   by_cases e:b=k
   ·subst e
    have:Nat.beq b b=true:=by simp
    rw [this] at hk
    simp only [cond_true,Option.some.injEq] at hk
    exact⟨rfl,hk.symm⟩
   ·rw [wb e] at hk
    have:=(yn hk).1
    simp only [memN,List.any_cons,List.any_nil,Bool.or_false] at this
    exact absurd (Nat.eq_of_beq_eq_true this).symm e
  refine hk ρ _ ⟨fun _ _=>rfl,⟨fun k r hk=>?_,fun k k' r r' hne g1 g2=>?_⟩,by simp,fun j hj hne=>?_,fun k r hk o' ho'=>?_⟩
  ·obtain⟨rfl,rfl⟩:=key k r hk
   refine .inr ⟨o,ver,cap,pad,by rw [e1,List.length_set],qcn e2,?_,hw',by rw [List.length_set];exact e5,e6⟩
   rw [List.length_append,jn hw',List.length_set,← jn e4,← List.length_append]
   exact e3
  ·exact absurd ((key k r g1).1.trans (key k' r' g2).1.symm) hne
  ·have:=hne b _ ((y9 b).trans hH)
   rw [e1] at this
   exact List.getElem?_set_ne (fun e=>this (by rw [e];rfl))
  ·obtain⟨rfl,rfl⟩:=key k r hk
   exact .inr ⟨k,_,(y9 k).trans hH,ho'⟩
structure OwnR (sz:Nat) (T:TypeId) (ys:List AV) (st:List AObj) (c r:AV) (st':List AObj):Prop where
 ok:OwnS st' sz T ys r
 len:st.length≤st'.length
 same:∀ j,j<st.length→z6 c≠some j→st'[j]? = st[j]?
 loc:∀ o,z6 r=some o→st.length≤o∨z6 c=some o
theorem qrw {S:List AObj} {sz:Nat} {T:TypeId} {xs:List AV} {c:AV} (h:OwnS S sz T xs c):tpAt c=c:=qoz h
theorem qn1 {f:FuncId} {sz:Nat} {T0:TypeId} {xs ys:List AV} (args:List AV) (hc:okC ⟨kh 0 (.tp 0::args.map .a),[(0,some (.own sz T0 xs))],1⟩=true)
  (h:∀ st c,OwnS st sz T0 xs c→qp E f (c::args) st fun r st'=>OwnR sz T0 ys st c r st'):x4 E f (.tp 0::args.map .a) 1 (hpF [(0,some (.own sz T0 xs))]) ⟨.tp 1,x2 [(0,some (.own sz T0 xs))],[(1,some (.own sz T0 ys))]++ym [(0,some (.own sz T0 xs))],2⟩:=fun ρ S hS=>by
 simp only [qae] at hS
 have hok:OwnS S sz T0 xs (ρ 0):=hS.ok 0 _ rfl
 have e:SV.evs ρ (.tp 0::args.map .a) = ρ 0::args:=by
  simp only [SV.evs,SV.ev,qrw hok,yf,List.map_map]
  congr 1
  conv=>rhs;rw [← List.map_id args]
  exact List.map_congr_left fun x _=>rfl
 rw [e]
 refine (h S (ρ 0) hok).mono fun r S' hr=>⟨upd ρ 1 r,?_,?_⟩
 ·simp only [SV.ev,xd,qrw hr.ok]
 ·have key:∀ k q,hpF [(1,some (.own sz T0 ys))] k=some q→k=1∧q = .own sz T0 ys:=fun k q hk=>by
   have:=y7 hk
   simp only [lkS] at this
   cases hb:Nat.beq 1 k with
   |true=>
    rw [hb] at this
    simp only [cond_true,Option.some.injEq] at this
    exact⟨(Nat.eq_of_beq_eq_true hb).symm,this.symm⟩
   |false=>rw [hb] at this;simp at this
  refine⟨fun k hk=>qa5 _ _ (by simp only at hk;omega),?_,hr.len,fun j hj hn=>?_,fun k q hk o ho=>?_⟩
  ·simp only [qae,qfw]
   refine⟨fun k q hk=>?_,fun k k' q q' hne h1 h2=>absurd ((key k q h1).1.trans (key k' q' h2).1.symm) hne⟩
   obtain⟨rfl,rfl⟩:=key k q hk
   rw [xd]
   exact hr.ok
  ·simp only [qae] at hn
   exact hr.same j hj (hn 0 _ rfl)
  ·simp only [qae,qfw] at hk ⊢
   obtain⟨rfl,rfl⟩:=key k q hk
   rw [xd] at ho
   rcases hr.loc o ho with h|h
   ·exact .inl h
   ·exact .inr ⟨0,_,rfl,h⟩
theorem qyq {f:FuncId} {sz:Nat} {T0:TypeId} {ys:List AV} {nx:Nat} {H:Nat→Option SR} (args:List AV) (vs:List SV) (hv:∀ ρ,SV.evs ρ vs=args)
  (h:∀ st,qp E f args st fun r st'=>OwnR sz T0 ys st (.v undef) r st'):x4 E f vs nx H ⟨.tp nx,[],[(nx,some (.own sz T0 ys))],nx+1⟩:=fun ρ S hS=>by
 rw [hv]
 refine (h S).mono fun r S' hr=>⟨upd ρ nx r,?_,?_⟩
 ·simp only [SV.ev,xd,qrw hr.ok]
 ·have key:∀ k q,chF [(nx,some (SR.own sz T0 ys))] (resF [] H) k=some q→k=nx∧q = .own sz T0 ys:=fun k q hk=>by
   simp only [chF,lkS] at hk
   cases hb:Nat.beq nx k with
   |true=>
    rw [hb] at hk
    simp only [cond_true,Option.some.injEq] at hk
    exact⟨(Nat.eq_of_beq_eq_true hb).symm,hk.symm⟩
   |false=>
    rw [hb] at hk
    simp [resF,memN] at hk
  refine⟨fun k hk=>qa5 _ _ (by simp only at hk;omega),⟨fun k q hk=>?_,fun k k' q q' hne h1 h2=>absurd ((key k q h1).1.trans (key k' q' h2).1.symm) hne⟩,hr.len,fun j hj _=>hr.same j hj (by simp [z6]),fun k q hk o ho=>?_⟩
  ·obtain⟨rfl,rfl⟩:=key k q hk
   rw [xd]
   exact hr.ok
  ·obtain⟨rfl,rfl⟩:=key k q hk
   rw [xd] at ho
   rcases hr.loc o ho with h|h
   ·exact .inl h
   ·simp [z6] at h
end
end Go.Av
namespace Go.Proofs.YtneejjefekdgjaaGreatDoor
open Go Go.Av Go.RowKit Go.Proofs Go.Pl
theorem qq6 {b:UInt8} {v:qe}:yi b v=if 0<v.length∧v.getD 0 0=b then v.drop 1 else v:=by
 cases v with
 |nil=>rfl
 |cons x r=>
  unfold yi
  by_cases h:x=b <;> simp [h]
set_option maxHeartbeats 2000000 in
theorem ql8 (ls:List qe) (st:List AObj) (hB:LsB ls):qp E 140 [Ss ls] st fun r st'=>r=qc0 ls∧st'=st:=by
 refine z0 [.a (Ss ls)] (qqu _) Tryz.func140 rfl rfl (fun _=>rfl) rfl fun S0=>?_
 have hL:=hB.len
 have hml:(ls.map fun x=>Sv x).length=ls.length:=by simp
 cases ls with
 |nil=>
  apply qg [2]
  repeat' (first|apply And.intro|(intro h;try exact cDd)|exact cSd|apply qd [2]|refine exr ?_|refine qh ?_)
 |cons l r=>
  have hl:=hB.val l (by simp)
  simp only [List.length_cons] at hL hml
  have hkd:=fun st=>qis l st (by omega)
  have hget0:((l::r).map fun x=>Sv x)[0]? = some (Sv l):=rfl
  by_cases h4:qs l=4
  ·have hcu:=fun st=>q5d l st (by omega) h4
   simp only [h4] at hkd
   have htr:(yi 32 (wn l)).length≤l.length:=by unfold yi wn;split <;> simp <;> omega
   have hrl:(wn l).length≤l.length:=by unfold wn;simp
   apply qg [2]
   repeat' (first|apply And.intro|(intro h;try exact cDd)|(refine Exists.intro (0) ⟨by omega,_,hget0,?_⟩)|exact⟨Tryz.call138⟩|refine cpe hkd ?_|exact⟨Tryz.call221⟩|refine cpe hcu ?_|exact cSd|apply qd [2]|refine exr ?_|refine qh ?_)
   all_goals
    refine zw (X:=Nat×qe) (fun (k,acc)=>⟨[(0,.a (Ss (l::r))),(2,.bx 0 0),(4,.s (jt l)),(5,.s acc),(7,.i ((k:Int)+1))],[(0,some (.cells 111 [.s [],.s []]))],1⟩) (fun (k,acc)=>k≤r.length∧(∀ x∈r.take k,qs x=3)∧acc=accU l (r.take k)) (fun (k,_)=>r.length - k) (0,yi 32 (wn l)) ⟨by omega,by simp,by simp [accU]⟩ ?_ ?_
    ·skip
     repeat' (first|apply And.intro|(intro h;try exact cDd)|exact cSd|apply qd []|refine exr ?_|refine qh ?_)
     all_goals (rw [qq6];split <;> rename_i h <;> first|rfl|(exfalso;omega)|exact absurd ((q2r _).2 h.2) (by assumption)|exact absurd ⟨by omega,(q2r _).1 (by assumption)⟩ h)
    ·rintro⟨k,acc⟩ ⟨hk,h3,hacc⟩
     have hal:=q57 l (r.take k) fun s hs=>hB.val s (by simp [List.mem_of_mem_take hs])
     rw [← hacc,List.length_take] at hal
     by_cases hlt:k<r.length
     ·obtain⟨a,ha⟩:∃ a,r[k]? = some a:=⟨_,List.getElem?_eq_getElem hlt⟩
      have hget:((l::r).map fun x=>Sv x)[k+1]? = some (Sv a):=by simp [ha]
      have hav:=hB.val a (by simp [List.mem_of_getElem? ha])
      have hka:=fun st=>qis a st (by omega)
      have htk:r.take (k+1)=r.take k++[a]:=by
       obtain⟨_,rfl⟩:=List.getElem?_eq_some_iff.1 ha
       rw [List.take_append_getElem]
      by_cases hk3:qs a=3
      ·obtain⟨h2,_⟩:=qjh hk3
       simp only [hk3] at hka
       have hd1:(a.drop 1).length=a.length - 1:=by simp
       have hac:=q22 l (r.take k) a
       rw [← hacc,← htk,qq6] at hac
       apply qg []
       repeat' (first|apply And.intro|(intro h;try exact cDd)|(refine Exists.intro ((k+1)) ⟨by omega,_,hget,?_⟩)|exact⟨Tryz.call138⟩|refine cpe hka ?_|(refine Exists.intro (k+1,_) ⟨⟨by omega,by rw [htk];exact qj9 h3 hk3,rfl⟩,by simp only;omega,?_⟩)|exact cSd|apply qd []|refine exr ?_|refine qh ?_)
       all_goals (rw [hac];split <;> rename_i h <;> first|rfl|(simp only [List.append_assoc];rfl)|(exfalso;omega)|exact absurd ((quv _).2 h.2) (by assumption)|exact absurd ⟨by omega,(quv _).1 (by assumption)⟩ h)
      ·have hno:jp (l::r)=(([],[]),2):=if_neg fun h=>hk3 (h.2.2 a (List.mem_of_getElem? ha))
       unfold qc0
       rw [hno]
       apply qg []
       repeat' (first|apply And.intro|(intro h;try exact cDd)|(refine Exists.intro ((k+1)) ⟨by omega,_,hget,?_⟩)|exact⟨Tryz.call138⟩|refine cpe hka ?_|exact absurd (by assumption) hk3|exact cSd|apply qd []|refine exr ?_|refine qh ?_)
     ·rw [List.take_of_length_le (by omega)] at h3 hacc
      have hun:jp (l::r)=if 1000<(accU l r).length then (([],[]),6) else ((jt l,accU l r),0):=if_pos ⟨by simp,h4,h3⟩
      unfold qc0
      rw [hun,← hacc]
      apply qg []
      repeat' (first|apply And.intro|(intro h;try exact cDd)|exact cSd|apply qd []|refine exr ?_|refine qh ?_)
      all_goals (split <;> first|rfl|omega)
  ·have hno:jp (l::r)=(([],[]),2):=if_neg fun h=>h4 h.2.1
   unfold qc0
   rw [hno]
   apply qg [2]
   repeat' (first|apply And.intro|(intro h;try exact cDd)|(refine Exists.intro (0) ⟨by omega,_,hget0,?_⟩)|exact⟨Tryz.call138⟩|refine cpe hkd ?_|exact cSd|apply qd [2]|refine exr ?_|refine qh ?_)
theorem qzk {a:qe} (h10:10∉a):xv a=if qs a=1∨a.getD 0 0=46 then 46::a else a:=by
 have hk:=q7d h10
 unfold xv
 cases a with
 |nil=>simp [hk,qcd]
 |cons x y=>simp only [List.head?_cons,Option.some.injEq,hk];rfl
def outK (hd:qe) (r:List qe) (k:Nat):List AV:=(hd::(r.take k).map fun s=>[32]++xv s).map fun x=>Sv x
theorem q44 {hd:qe} {r:List qe} {k:Nat} {a:qe} (h:r[k]? = some a):outK hd r (k+1)=outK hd r k++[Sv ([32]++xv a)]:=by
 obtain⟨hlt,rfl⟩:=List.getElem?_eq_some_iff.1 h
 unfold outK
 rw [← List.take_append_getElem hlt]
 simp only [List.map_append,List.map_cons,List.map_nil,List.cons_append]
theorem q7s {hd:qe} {r:List qe} {k:Nat} (h:k≤r.length):(outK hd r k).length=k+1:=by
 unfold outK
 simp
 omega
set_option maxHeartbeats 2000000 in
theorem qxj (f:FldV) (st:List AObj) (hl:f.1.length<4294967281) (hv:f.2.length<1000000):qp E 252 [fldA f] st fun r st'=>r=Ss (zy f)∧st'=st:=by
 obtain⟨key,val⟩:=f
 dsimp only at hl hv
 refine z0 [.a (.ag [Sv key,Sv val])] (qmv _) Tryz.func252 rfl rfl (fun _=>rfl) rfl fun S0=>?_
 obtain⟨p,r,hp⟩:∃ p r,qu val=p::r:=⟨_,_,qke val⟩
 have hpl:p.length≤val.length:=qek val p (by rw [hp];simp)
 have hrl:∀ x∈r,x.length≤val.length:=fun x hx=>qek val x (by rw [hp];simp [hx])
 have hr10:∀ x∈r,10∉x:=fun x hx=>qd8 val x (by rw [hp];simp [hx])
 have hrn:r.length≤val.length:=by have:=qbh _ val (Nat.le_refl _);rw [hp] at this;simpa using this
 have hlen:(Sv p::r.map fun x=>Sv x).length=r.length+1:=by simp
 have hpt:=fun st=>q7w val p r st hv hp
 have hget0:(Sv p::r.map fun x=>Sv x)[0]? = some (Sv p):=rfl
 rw [qy5 (f:=(key,val)) hp]
 generalize hhd:v8 key p=hd
 have hll:Ss (hd::r.map fun s=>[32]++xv s) = .sl 1 (outK hd r r.length) none:=by unfold outK;rw [List.take_length]
 rw [hll]
 apply qg [1,24]
 repeat' (first|apply And.intro|(intro h;try exact cDd)|exact⟨Tryz.call298⟩|refine cpe hpt ?_|(refine Exists.intro (0) ⟨by omega,_,hget0,?_⟩)|exact cSd|apply qd [1,24]|refine exr ?_|refine qh ?_)
 all_goals
  refine zw (X:=Nat) (fun k=>⟨[(3,.a (.sl 1 (Sv p::r.map fun x=>Sv x) none)),(5,.tp 0),(6,.i ((k:Int)+1))],[(0,some (.tip 1 9 (outK hd r k)))],1⟩) (fun k=>k≤r.length) (fun k=>r.length - k) 0 (by omega) ?_ ?_
  ·skip
   repeat' (first|apply And.intro|(intro h;try exact cDd)|exact cSd|apply qd []|refine exr ?_|refine qh ?_)
   all_goals (subst hhd;unfold v8 outK;simp_all [SV.evs,SV.ev])
  ·rintro k hk
   have hol:=q7s (hd:=hd) hk
   by_cases hlt:k<r.length
   ·obtain⟨a,ha⟩:∃ a,r[k]? = some a:=⟨_,List.getElem?_eq_getElem hlt⟩
    have hget:(Sv p::r.map fun x=>Sv x)[k+1]? = some (Sv a):=by simp [ha]
    have ham:=List.mem_of_getElem? ha
    have hal:=hrl a ham
    have hka:=fun st=>qis a st (by omega)
    have hst:=qzk (hr10 a ham)
    have hnx:=q44 (hd:=hd) ha
    rw [hst] at hnx
    have hk0:qs a≠1→0<a.length:=fun h=>List.length_pos_iff.2 fun e=>h (by subst e;rfl)
    by_cases hk1:qs a=1
    ·simp only [hk1] at hka
     rw [if_pos (.inl hk1)] at hnx
     apply qg []
     repeat' (first|apply And.intro|(intro h;try exact cDd)|(refine Exists.intro ((k+1)) ⟨by omega,_,hget,?_⟩)|exact⟨Tryz.call138⟩|refine cpe hka ?_|(refine Exists.intro (k+1) ⟨by omega,by omega,?_⟩)|exact cSd|apply qd []|refine exr ?_|refine qh ?_)
     all_goals first|(rw [hnx];done)|(rw [hnx];simp [SV.evs,SV.ev];done)|(simp only [List.length_cons,List.length_nil];omega)
    ·have hpos:=hk0 hk1
     apply qg []
     repeat' (first|apply And.intro|(intro h;try exact cDd)|(refine Exists.intro ((k+1)) ⟨by omega,_,hget,?_⟩)|exact⟨Tryz.call138⟩|refine cpe hka ?_|(refine Exists.intro (k+1) ⟨by omega,by omega,?_⟩)|exact cSd|apply qd []|refine exr ?_|refine qh ?_)
     all_goals first|(rw [hnx,if_pos (.inr ((quv _).1 (by assumption)))];simp [SV.evs,SV.ev];done)|(rw [hnx,if_neg (by simp only [hk1,false_or];intro e;exact absurd ((quv _).2 e) (by assumption))];done)|(simp only [List.length_cons,List.length_nil];omega)
   ·rw [show k=r.length by omega]
    apply qg []
    repeat' (first|apply And.intro|(intro h;try exact cDd)|exact cSd|apply qd []|refine exr ?_|refine qh ?_)
set_option maxHeartbeats 2000000 in
theorem q2c (xs:List FldV) (st:List AObj) (hx:quf xs):qp E 183 [kc xs] st fun r st'=>r=Sv (jy xs)∧st'=st:=by
 refine z0 [.a (kc xs)] (qy _) Tryz.func183 rfl rfl (fun _=>rfl) rfl fun S0=>?_
 have hxl:=hx.len
 have hml:(xs.map fldA).length=xs.length:=by simp
 apply qg []
 repeat' (first|apply And.intro|(intro h;try exact cDd)|exact cSd|apply qd []|refine exr ?_|refine qh ?_)
 refine zw (X:=Nat) (fun k=>⟨[(0,.a (kc xs)),(3,.s (jy (xs.take k))),(4,.i k)],[],0⟩) (fun k=>k≤xs.length) (fun k=>xs.length - k) 0 (by omega) ?_ ?_
 ·skip
  repeat' (first|apply And.intro|(intro h;try exact cDd)|exact cSd|apply qd []|refine exr ?_|refine qh ?_)
 ·rintro k hk
  by_cases hlt:k<xs.length
  ·obtain⟨f,hf⟩:∃ f,xs[k]? = some f:=⟨_,List.getElem?_eq_getElem hlt⟩
   have hget:(xs.map fldA)[k]? = some (fldA f):=by simp [hf]
   obtain⟨hf1,hf2⟩:=hx.val f (List.mem_of_getElem? hf)
   have hb1:=qp2 (xs.take k) fun g hg=>hx.val g (List.mem_of_mem_take hg)
   rw [List.length_take] at hb1
   have hb2:=qnm f
   have hln:=fun st=>qxj f st hf1 hf2
   have htk:jy (xs.take (k+1))=jy (xs.take k)++zv (zy f):=by
    obtain⟨_,rfl⟩:=List.getElem?_eq_some_iff.1 hf
    rw [← List.take_append_getElem hlt,qs3,qs5]
   have hsl:((zy f).map fun x=>Sv x).length=(zy f).length:=by simp
   have hsn:=qi6 (zy f)
   apply qg []
   repeat' (first|apply And.intro|(intro h;try exact cDd)|(refine Exists.intro (k) ⟨by omega,_,hget,?_⟩)|exact⟨Tryz.call252⟩|refine cpe hln ?_|exact cSd|apply qd []|refine exr ?_|refine qh ?_)
   refine zw (X:=Nat) (fun j=>⟨[(0,.a (kc xs)),(3,.s (jy (xs.take k)++zv ((zy f).take j))),(4,.i k),(17,.a (Ss (zy f))),(18,.i ((zy f).map fun x=>Sv x).length),(19,.i j)],[],0⟩) (fun j=>j≤(zy f).length) (fun j=>(zy f).length - j) 0 (by omega) ?_ ?_
   ·skip
    repeat' (first|apply And.intro|(intro h;try exact cDd)|exact cSd|apply qd []|refine exr ?_|refine qh ?_)
    all_goals (simp [zv];done)
   ·rintro j hj
    by_cases hjl:j<(zy f).length
    ·obtain⟨a,ha⟩:∃ a,(zy f)[j]? = some a:=⟨_,List.getElem?_eq_getElem hjl⟩
     have hget2:((zy f).map fun x=>Sv x)[j]? = some (Sv a):=by simp [ha]
     have htj:zv ((zy f).take (j+1))=zv ((zy f).take j)++a++[10]:=by
      obtain⟨_,rfl⟩:=List.getElem?_eq_some_iff.1 ha
      rw [← List.take_append_getElem hjl,qa3,qgp,List.append_assoc]
     have hbj:(zv ((zy f).take (j+1))).length≤(zv (zy f)).length:=by
      have:=congrArg (fun l=>(zv l).length) (List.take_append_drop (j+1) (zy f))
      simp only [qa3,List.length_append] at this
      omega
     have hbl:=congrArg List.length htj
     simp only [List.length_append,List.length_cons,List.length_nil] at hbl
     apply qg []
     repeat' (first|apply And.intro|(intro h;try exact cDd)|(refine Exists.intro (j) ⟨by omega,_,hget2,?_⟩)|(refine Exists.intro (j+1) ⟨by omega,by omega,?_⟩)|exact cSd|apply qd []|refine exr ?_|refine qh ?_)
     all_goals first|(rw [htj];simp;done)|(simp only [List.length_append,List.length_cons,List.length_nil];omega)
    ·rw [List.take_of_length_le (show (zy f).length≤j by omega)]
     apply qg []
     repeat' (first|apply And.intro|(intro h;try exact cDd)|(refine Exists.intro (k+1) ⟨by omega,by omega,?_⟩)|exact cSd|apply qd []|refine exr ?_|refine qh ?_)
     all_goals (rw [htk];done)
  ·rw [List.take_of_length_le (by omega)]
   apply qg []
   repeat' (first|apply And.intro|(intro h;try exact cDd)|exact cSd|apply qd []|refine exr ?_|refine qh ?_)
def accK (l:qe) (r:List qe) (k:Nat):List qe:=yi 32 (wn l)::(r.take k).map fun s=>yi 46 (s.drop 1)
theorem q21 {l:qe} {r:List qe} {k:Nat} {a:qe} (h:r[k]? = some a):(accK l r (k+1)).map (fun x=>Sv x)=(accK l r k).map (fun x=>Sv x)++[Sv (yi 46 (a.drop 1))]:=by
 obtain⟨hlt,rfl⟩:=List.getElem?_eq_some_iff.1 h
 unfold accK
 rw [← List.take_append_getElem hlt]
 simp only [List.map_append,List.map_cons,List.map_nil,List.cons_append]
set_option maxHeartbeats 4000000 in
theorem qk1 (ls:List qe) (st:List AObj) (hB:LsB ls):qp E 210 [Ss ls] st fun r st'=>r=qf3 ls∧st'=st:=by
 refine z0 [.a (Ss ls)] (qya _) Tryz.func210 rfl rfl (fun _=>rfl) rfl fun S0=>?_
 have hL:=hB.len
 have hml:(ls.map fun x=>Sv x).length=ls.length:=by simp
 cases ls with
 |nil=>
  apply qg [2]
  repeat' (first|apply And.intro|(intro h;try exact cDd)|exact cSd|apply qd [2]|refine exr ?_|refine qh ?_)
 |cons l r=>
  have hl:=hB.val l (by simp)
  simp only [List.length_cons] at hL hml
  have hget0:((l::r).map fun x=>Sv x)[0]? = some (Sv l):=rfl
  have hrm:(r.map fun x=>Sv x).length=r.length:=by simp
  by_cases h4:qs l=4
  ·have hkf:=qin.1 h4
   have hcu:=fun st=>q1u l st (by omega) h4
   have ht1:=fun st=>q0k (wn l) 32 st
   apply qg [2,31]
   repeat' (first|apply And.intro|(intro h;try exact cDd)|(refine Exists.intro (0) ⟨by omega,_,hget0,?_⟩)|exact⟨Tryz.call272⟩|refine cpe hcu ?_|exact⟨Tryz.call74⟩|refine cpe ht1 ?_|exact cSd|apply qd [2,31]|refine exr ?_|refine qh ?_)
   refine zw (X:=Nat) (fun k=>⟨[(2,.bx 0 0),(4,.s (jt l)),(7,.tp 1),(33,.a (.sl 1 (r.map fun x=>Sv x) none)),(34,.i (r.map fun x=>Sv x).length),(35,.i k)],[(0,some (.cells 111 [.s [],.s []])),(1,some (.tip 1 9 ((accK l r k).map fun x=>Sv x)))],2⟩) (fun k=>k≤r.length∧∀ x∈r.take k,qs x=3) (fun k=>r.length - k) 0 ⟨by omega,by simp⟩ ?_ ?_
   ·skip
    repeat' (first|apply And.intro|(intro h;try exact cDd)|exact cSd|apply qd []|refine exr ?_|refine qh ?_)
   ·rintro k ⟨hk,h3⟩
    have hacl:((accK l r k).map fun x=>Sv x).length=k+1:=by unfold accK;simp;omega
    by_cases hlt:k<r.length
    ·obtain⟨a,ha⟩:∃ a,r[k]? = some a:=⟨_,List.getElem?_eq_getElem hlt⟩
     have hget:(r.map fun x=>Sv x)[k]? = some (Sv a):=by simp [ha]
     have hav:=hB.val a (by simp [List.mem_of_getElem? ha])
     have hka:=fun st=>qlq a st (by omega)
     have ht2:=fun st=>q0k (a.drop 1) 46 st
     have hnx:=q21 (l:=l) ha
     by_cases hk3:qs a=3
     ·obtain⟨h2,_⟩:=qjh hk3
      simp only [hk3] at hka
      have htk:r.take (k+1)=r.take k++[a]:=by
       obtain⟨_,rfl⟩:=List.getElem?_eq_some_iff.1 ha
       rw [List.take_append_getElem]
      apply qg []
      repeat' (first|apply And.intro|(intro h;try exact cDd)|(refine Exists.intro (k) ⟨by omega,_,hget,?_⟩)|exact⟨Tryz.call122⟩|refine cpe hka ?_|exact⟨Tryz.call74⟩|refine cpe ht2 ?_|(refine Exists.intro (k+1) ⟨⟨by omega,by rw [htk];exact qj9 h3 hk3⟩,by omega,?_⟩)|exact cSd|apply qd []|refine exr ?_|refine qh ?_)
      all_goals first|(rw [hnx];done)|(rw [hnx];simp [SV.evs,SV.ev];done)|(simp only [List.length_cons,List.length_nil];omega)
     ·have hno:jp (l::r)=(([],[]),2):=if_neg fun h=>hk3 (h.2.2 a (List.mem_of_getElem? ha))
      unfold qf3
      rw [hno]
      apply qg []
      repeat' (first|apply And.intro|(intro h;try exact cDd)|(refine Exists.intro (k) ⟨by omega,_,hget,?_⟩)|exact⟨Tryz.call122⟩|refine cpe hka ?_|exact absurd (by assumption) hk3|exact cSd|apply qd []|refine exr ?_|refine qh ?_)
    ·rw [List.take_of_length_le (by omega)] at h3
     have hkr:k=r.length:=by omega
     subst hkr
     have hok:qo1 (l::r):=⟨by simp,h4,h3⟩
     have hjl:=qou r fun s hs=>hB.val s (by simp [hs])
     have hj:=q4f (yi 32 (wn l)) r
     have hjv:Lib.join (accK l r r.length) [10]=qbz l r:=by unfold accK;rw [List.take_length];exact hj
     have htr:(yi 32 (wn l)).length≤l.length:=by unfold yi wn;split <;> simp <;> omega
     have hvl:(qbz l r).length≤140737488355328:=by
      unfold qbz
      rw [List.length_append]
      omega
     have hjn:=fun tip st=>q97 (accK l r r.length) tip [10] (qbz l r) st hjv (by rw [← List.length_map (f:=fun x=>Sv x),hacl];omega) hvl
     have hkl:(jt l).length<4294967281:=by have:=hkf.2.2.2.1;omega
     have hun:jp (l::r)=if 1000<(qbz l r).length then (([],[]),6) else ((jt l,qbz l r),0):=if_pos hok
     have hjn0:=hjn none
     unfold qf3
     by_cases hv:1000<(qbz l r).length
     ·have hcf:ww (jt l,qbz l r)=6:=(if_neg (by simpa using hkf.2.2)).trans (if_pos hv)
      have hck:=fun st=>qht (jt l,qbz l r) st hkl (by rw [hcf];decide)
      rw [hcf] at hck
      rw [hun,if_pos hv]
      apply qg [10]
      repeat' (first|apply And.intro|(intro h;try exact cDd)|exact⟨Tryz.call127⟩|refine cpe hjn0 ?_|exact⟨Tryz.call273⟩|refine cpe hck ?_|exact cSd|apply qd [10]|refine exr ?_|refine qh ?_)
     ·have hcf:ww (jt l,qbz l r)=0:=(if_neg (by simpa using hkf.2.2)).trans (if_neg hv)
      have hck:=fun st=>qhs (jt l,qbz l r) st hkl hcf
      rw [hun,if_neg hv]
      apply qg [10]
      repeat' (first|apply And.intro|(intro h;try exact cDd)|exact⟨Tryz.call127⟩|refine cpe hjn0 ?_|exact⟨Tryz.call273⟩|refine cpe hck ?_|exact cSd|apply qd [10]|refine exr ?_|refine qh ?_)
  ·have hno:jp (l::r)=(([],[]),2):=if_neg fun h=>h4 h.2.1
   have hcu:=fun st=>qy4 l st (by omega) h4
   unfold qf3
   rw [hno]
   apply qg [2]
   repeat' (first|apply And.intro|(intro h;try exact cDd)|(refine Exists.intro (0) ⟨by omega,_,hget0,?_⟩)|exact⟨Tryz.call272⟩|refine cpe hcu ?_|exact cSd|apply qd [2]|refine exr ?_|refine qh ?_)
end Go.Proofs.YtneejjefekdgjaaGreatDoor
namespace Go.Av
open Go Go.RowKit
structure DP where
 q:Prop
 h:Decidable q
def eqC1 (u:Option TypeDesc) (x y:SV):Option DP:=
 match u with
 |some (.int _)=>(match qd2 x,qd2 y with
  |some (k,m),some (k',n)=>bif decide (k=k') then some ⟨m=n,inferInstance⟩ else none
  | _,_=>none)
 |some .string=>(match x,y with
  | .s m,.s n=>some ⟨m=n,inferInstance⟩
  | _,_=>none)
 |some .bool=>(match qja x,qja y with
  |some a,some b=>some ⟨a=b,inferInstance⟩
  | _,_=>none)
 | _=>none
def eqCs (P:Program):Nat→List Field→List SV→List SV→Option DP
 | _,[],[],[]=>some ⟨True,inferInstance⟩
 | i, f :: r, x :: xs, y :: ys => bif f.name != "_" && Nat.beq f.offset i then (match eqC1 (P.underlying f.type) x y, eqCs P (i + 1) r xs ys with
  |some a,some b=>some ⟨a.q∧b.q,@instDecidableAnd _ _ a.h b.h⟩
  | _,_=>none) else none
 | _,_,_,_=>none
def agOf:SV→Option (List SV)
 | .ag cs=>some cs
 | .a (.ag xs)=>some (nfs xs)
 | _=>none
theorem qzq {v:SV} {cs:List SV} (h:agOf v=some cs) (ρ : Nat→AV):v.ev ρ = .ag (SV.evs ρ cs):=by
 unfold agOf at h
 split at h
 ·simp only [Option.some.injEq] at h;subst h;rfl
 ·simp only [Option.some.injEq] at h;subst h;simp only [SV.ev,qgl]
 ·simp at h
def qwy:TypeDesc→Bool
 | .struct _=>false
 | .array _ _=>false
 | _=>true
theorem qxw {P:Program} {t:TypeId} {u:TypeDesc} {cs:Array Value} {off:Nat} {a:Value} (w:World) (hu:P.underlying t=some u) (hs:qwy u=true) (h:cs[off]? = some a):(part t cs off).run P w = .ok a w:=by
 unfold part isAgg
 cases u <;> simp [run_underlying hu,h,qwy] at hs ⊢
theorem q63 {P:Program} {G:Gh} {ρ : Nat→AV} {t:TypeId} {x y:SV} {a b:Value} {q:DP} {d:Nat} (w:World) (h:eqC1 (P.underlying t) x y=some q) (hx:Rel G (x.ev ρ) a) (hy:Rel G (y.ev ρ) b) :
  (Op.equalIn (d+1) t a b).run P w = .ok (@decide q.q q.h) w∧∃ u,P.underlying t=some u∧qwy u=true:=by
 unfold eqC1 at h
 split at h
 ·rename_i kd hu
  split at h
  ·rename_i k m k' n hm hn
   cases hk:decide (k=k') with
   |false=>rw [hk] at h;simp at h
   |true=>
    rw [hk] at h
    simp only [cond_true,Option.some.injEq] at h
    have hk:=of_decide_eq_true hk
    subst hk
    subst h
    rw [qbv hm] at hx
    rw [qbv hn] at hy
    cases hx
    cases hy
    refine⟨?_,_,hu,rfl⟩
    rw [run_equalIn_int w d t k kd m n hu]
    congr 1
  ·simp at h
 ·rename_i hu
  split at h
  ·rename_i m n
   simp only [Option.some.injEq] at h
   subst h
   cases hx
   cases hy
   refine⟨?_,_,hu,rfl⟩
   rw [run_equalIn_string w d t _ _ hu]
   simp only [ByteArray.toList_eq]
   congr 1
   by_cases he:m=n <;> simp [he]
  ·simp at h
 ·rename_i hu
  split at h
  ·rename_i m n hm hn
   simp only [Option.some.injEq] at h
   subst h
   rw [qe4 hm] at hx
   rw [qe4 hn] at hy
   cases hx
   cases hy
   refine⟨?_,_,hu,rfl⟩
   rw [run_equalIn_bool' w d t _ _ hu]
   congr 1
  ·simp at h
 ·simp at h
theorem qv0 {P:Program} {G:Gh} {ρ : Nat→AV} {d:Nat} (w:World) (us ws:Array Value):∀ (i:Nat) (fs:List Field) (xs ys:List SV) (q:DP),eqCs P i fs xs ys=some q →
  (∀ j x,xs[j]? = some x→∃ a,us[i+j]? = some a∧Rel G (x.ev ρ) a)→(∀ j x,ys[j]? = some x→∃ a,ws[i+j]? = some a∧Rel G (x.ev ρ) a)→(Op.eqFields (d+1) us ws fs).run P w = .ok (@decide q.q q.h) w
 |i,[],[],[],q,h,_,_=>by
  simp only [eqCs,Option.some.injEq] at h
  subst h
  simp [Op.eqFields]
 |i,f::r,x::xs,y::ys,q,h,hx,hy=>by
  simp only [eqCs] at h
  cases hc : (f.name != "_" && Nat.beq f.offset i) with
  |false=>rw [hc] at h;simp at h
  |true=>
   rw [hc] at h
   simp only [Bool.and_eq_true] at hc
   obtain⟨hc1,hc2⟩:=hc
   have hc2:=Nat.eq_of_beq_eq_true hc2
   simp only [cond_true] at h
   split at h
   ·rename_i qa qb h1 h2
    simp only [Option.some.injEq] at h
    subst h
    obtain⟨a,ha,hra⟩:=hx 0 x rfl
    obtain⟨b,hb,hrb⟩:=hy 0 y rfl
    obtain⟨e1,u,hu,hsc⟩:=q63 (d:=d) w h1 hra hrb
    have ih:=qv0 (d:=d) w us ws (i+1) r xs ys qb h2 (fun j z hz=>by
     obtain⟨a,h3,h4⟩:=hx (j+1) z (by simpa using hz)
     exact⟨a,by rw [← h3];congr 1;omega,h4⟩) (fun j z hz=>by
     obtain⟨a,h3,h4⟩:=hy (j+1) z (by simpa using hz)
     exact⟨a,by rw [← h3];congr 1;omega,h4⟩)
    have hn : f.name ≠ "_" := by simpa using hc1
    rw [Nat.add_zero,← hc2] at ha hb
    simp only [Op.eqFields,Sem.run_bind,Sem.run_ite,if_pos hn,qxw w hu hsc ha,qxw w hu hsc hb,Result.andThen_ok,e1]
    rcases (Classical.em qa.q) with hq|hq
    ·rw [@decide_eq_true _ qa.h hq]
     simp only [Bool.not_true,Bool.false_eq_true,if_false,ih]
     congr 1
     rcases (Classical.em qb.q) with hr|hr
     ·rw [@decide_eq_true _ qb.h hr];exact (@decide_eq_true _ (@instDecidableAnd _ _ qa.h qb.h) ⟨hq,hr⟩).symm
     ·rw [@decide_eq_false _ qb.h hr];exact (@decide_eq_false _ (@instDecidableAnd _ _ qa.h qb.h) fun h=>hr h.2).symm
    ·rw [@decide_eq_false _ qa.h hq]
     simp only [Bool.not_false,if_true,Sem.run_pure]
     congr 1
     exact (@decide_eq_false _ (@instDecidableAnd _ _ qa.h qb.h) fun h=>hq h.1).symm
   ·simp at h
 | _,[],[],_::_,_,h,_,_=>by simp [eqCs] at h
 | _,[],_::_,_,_,h,_,_=>by simp [eqCs] at h
 | _,_::_,[],_,_,h,_,_=>by simp [eqCs] at h
 | _,_::_,_::_,[],_,h,_,_=>by simp [eqCs] at h
section
variable {E : Env} {N : Nat} {ops : Array Oper} {nx : Nat} {sl : List (Nat × SV)} {H : Nat → Option SR} {k : Ef → Prop} {d : Option Tmp} {T : TypeId} {p : String} {af : Array Edge}
structure EqT (P:Program) (t:TypeId):Prop where
 u:P.underlying t=some (.struct (P.fieldsOf t))
 s:P.stoodInHeld t=false
 g:P.eqGuardType P.depth t=false
theorem q0e {G:Gh} {cs:List AV} {v:Value} (h:Rel G (.ag cs) v):∃ vs:Array Value,v = .agg vs∧∀ (j:Nat) x,cs[j]? = some x→∃ a,vs[j]? = some a∧Rel G x a:=by
 cases h with
 |ag _ vs hl h=>
  refine⟨vs,rfl,fun j x hx=>?_⟩
  have hj:j<vs.size:=by have:=lt_of_getElem? hx;omega
  exact⟨vs[j],by simp [hj],h j x _ hx (by simp [hj])⟩
theorem q5r {t:TypeId} {v1 v2:Value} {G:Gh} {ρ : Nat→AV} {vx vy:SV} {xs ys:List SV} {q:DP} (ht:EqT E.P t) (hx:agOf vx=some xs) (hy:agOf vy=some ys) (hq:eqCs E.P 0 (E.P.fieldsOf t).toList xs ys=some q) (h1:Rel G (vx.ev ρ) v1) (h2:Rel G (vy.ev ρ) v2) (w:World) :
  ∃ us ws,v1 = .agg us∧v2 = .agg ws∧(Op.equalIn 10000 t (.agg us) (.agg ws)).run E.P w = .ok (@decide q.q q.h) w:=by
 rw [qzq hx] at h1
 rw [qzq hy] at h2
 obtain⟨us,rfl,ha⟩:=q0e h1
 obtain⟨ws,rfl,hb⟩:=q0e h2
 refine⟨us,ws,rfl,rfl,?_⟩
 rw [run_equalIn_agg w 9999 t us ws ht.u ht.s]
 refine qv0 (G:=G) (ρ:= ρ) w us ws 0 _ xs ys q hq (fun j x hx=>?_) (fun j x hx=>?_)
 ·rw [Nat.zero_add]
  exact ha j _ (by rw [yf,List.getElem?_map,hx];rfl)
 ·rw [Nat.zero_add]
  exact hb j _ (by rw [yf,List.getElem?_map,hx];rfl)
theorem qus {t t':TypeId} {x y:Operand} {vx vy:SV} {xs ys:List SV} {q:DP} (ht:EqT E.P t) (hx:sval N sl x=some vx) (hy:sval N sl y=some vy) (h1:agOf vx=some xs) (h2:agOf vy=some ys) (hq:eqCs E.P 0 (E.P.fieldsOf t).toList xs ys=some q) (h:k ⟨.p q.q q.h,[],[],nx⟩) :
  ∃ e,Loc E N ops ⟨d,.binOp .eql t x y t',T,p,af,none⟩ nx sl H e∧k e:=by
 refine⟨_,j8 fun df rd K rest ρ t1 S hs hk=>q7 rfl (qz nofun fun B0 w0 G a w _ hI=>?_),h⟩
 have e1:=hI.eval x
 rw [q6 hs hx] at e1
 have e2:=hI.eval y
 rw [q6 hs hy] at e2
 obtain⟨us,ws,g1,g2,g3⟩:=q5r ht h1 h2 hq e1 e2 w
 generalize a.eval=ev at g1 g2
 have hg:(eqGuard .eql t x y (.agg us) (.agg ws)).run E.P w = .ok () w:=run_eqGuard_agg w .eql t x y us ws ht.g
 refine⟨.bool (@decide q.q q.h),w,G,Bv (@decide q.q q.h),S,?_,.refl G,hI.agree,.v _,hk⟩
 simp [execOp,g1,g2,hg,run_eql_struct,g3]
theorem zdi {t t':TypeId} {x y:Operand} {vx vy:SV} {xs ys:List SV} {q:DP} (ht:EqT E.P t) (hx:sval N sl x=some vx) (hy:sval N sl y=some vy) (h1:agOf vx=some xs) (h2:agOf vy=some ys) (hq:eqCs E.P 0 (E.P.fieldsOf t).toList xs ys=some q) (h:k ⟨.p (¬ q.q) (@instDecidableNot _ q.h),[],[],nx⟩) :
  ∃ e,Loc E N ops ⟨d,.binOp .neq t x y t',T,p,af,none⟩ nx sl H e∧k e:=by
 refine⟨_,j8 fun df rd K rest ρ t1 S hs hk=>q7 rfl (qz nofun fun B0 w0 G a w _ hI=>?_),h⟩
 have e1:=hI.eval x
 rw [q6 hs hx] at e1
 have e2:=hI.eval y
 rw [q6 hs hy] at e2
 obtain⟨us,ws,g1,g2,g3⟩:=q5r ht h1 h2 hq e1 e2 w
 generalize a.eval=ev at g1 g2
 have hg:(eqGuard .neq t x y (.agg us) (.agg ws)).run E.P w = .ok () w:=run_eqGuard_agg w .neq t x y us ws ht.g
 have hd:(!(@decide q.q q.h)) = @decide (¬ q.q) (@instDecidableNot _ q.h):=by
  rcases (Classical.em q.q) with hq|hq
  ·rw [@decide_eq_true _ q.h hq];exact (@decide_eq_false _ (@instDecidableNot _ q.h) fun h=>h hq).symm
  ·rw [@decide_eq_false _ q.h hq];exact (@decide_eq_true _ (@instDecidableNot _ q.h) hq).symm
 refine⟨.bool (@decide (¬ q.q) (@instDecidableNot _ q.h)),w,G,Bv (@decide (¬ q.q) (@instDecidableNot _ q.h)),S,?_,.refl G,hI.agree,.v _,hk⟩
 simp only [← hd]
 simp [execOp,g1,g2,hg,run_neq_struct,g3]
end
end Go.Av
namespace Go.Av
open Go Go.RowKit
def qd6 (kind:TypeDesc) (k:Value):List (Value×Value)→Nat→Option (Option (Nat×Value))
 | [],_=>some none
 |e::es,i=>match Instr.sameNow kind k e.1 with
  |some true=>some (some (i,e.2))
  |some false=>qd6 kind k es (i+1)
  |none=>none
theorem qnf (kind:TypeDesc) (k:Value):∀ (es:List MapEntry) (i:Nat),Instr.findNow kind k es i=qd6 kind k (es.map fun e=>(e.key,e.val)) i
 | [],_=>rfl
 |e::es,i=>by
  rw [List.map_cons,Instr.findNow,qd6]
  cases Instr.sameNow kind k e.key with
  |none=>rfl
  |some b=>cases b with
   |true=>rfl
   |false=>exact qnf kind k es (i+1)
def mset (kvs:List (Value×Value)) (k v:Value):Option (Nat×Value)→List (Value×Value)
 |some (i,_)=>kvs.set i (k,v)
 |none=>kvs++[(k,v)]
theorem qwq {kind:TypeDesc} {k:Value}:∀ {kvs:List (Value×Value)} {n i:Nat} {v:Value},qd6 kind k kvs n=some (some (i,v))→n≤i∧∃ q,kvs[i - n]? = some (q,v)∧Instr.sameNow kind k q=some true
 | [],_,_,_,h=>by simp [qd6] at h
 |e::es,n,i,v,h=>by
  unfold qd6 at h
  cases hs:Instr.sameNow kind k e.1 with
  |none=>rw [hs] at h;simp at h
  |some b=>
   rw [hs] at h
   cases b with
   |true=>
    simp only [Option.some.injEq,Prod.mk.injEq] at h
    obtain⟨rfl,rfl⟩:=h
    exact⟨Nat.le_refl _,e.1,by simp,hs⟩
   |false=>
    obtain⟨h1,q,h2,h3⟩:=qwq h
    exact⟨by omega,q,by rw [show i - n=(i - (n+1))+1 by omega];simpa using h2,h3⟩
section
variable {E : Env} {rd : Option Nat} {N : Nat} {ops : Array Oper} {K : AS → Prop} {s : AS} {rest : List Oper} {d : Option Tmp} {T : TypeId} {p : String} {af : Array Edge}
theorem qvc {t:TypeId} (h:AOps E rd N ops rest K (AS.put ⟨s.t,s.st++[.map []],s.df⟩ d (.mp s.st.length))):AOps E rd N ops (⟨d,.makeMap t none,T,p,af,none⟩::rest) K s:=by
 refine q7 rfl (qz nofun fun B0 w0 G a w _ hI=>?_)
 have hn:=hI.agree.n
 have hA:=hI.agree.newAny 0 true (.map []) (.map #[] 0) ⟨by simp [Gh.new,hn],by simp [Gh.new,hn];exact hI.agree.hB,#[],0,by
  have e:((G.new 0 w.heap.size 0 true).ob s.st.length).blk=w.heap.size:=by simp [Gh.new,hn]
  rw [e]
  exact qar w _,rfl⟩
 exact⟨.map (some w.heap.size),_,_,_,_,by simp [execOp,Instr.makeMap,newObj,Sem.run],G.le_new _ _ _ _,hA,.mp _ _ (by simp [Gh.new,hn]) (by simp [Gh.new,hn]) (by simp [Gh.new,hn]),h⟩
def mval (z:Value):Option (Nat×Value)→Value
 |some q=>q.2
 |none=>z
def mkey:TypeDesc→Value→Bool
 | .string,.string _=>true
 | .int _,.int _ _=>true
 | _,_=>false
theorem qma {P:Program} {kt:TypeId} {kd:TypeDesc} {k:Value} (hk:P.underlying kt=some kd) (h:mkey kd k=true) (e:Bool) (n:Nat) (w:World):(Instr.checkKey e (n+1) kt k).run P w = .ok () w:=by
 unfold Instr.checkKey
 rw [Sem.run_bind,run_underlying hk]
 unfold mkey at h
 split at h
 ·rfl
 ·rfl
 ·simp at h
theorem qnt {P:Program} {kt:TypeId} {kd:TypeDesc} {k:Value} {es:List MapEntry} {r:Option (Nat×Value)} (hk:P.underlying kt=some kd) (hf:qd6 kd k (es.map fun e=>(e.key,e.val)) 0=some r) (w:World):(Instr.findKey kt k es).run P w = .ok r w:=by
 unfold Instr.findKey
 rw [Sem.run_bind,run_underlying hk]
 simp only [Result.andThen_ok,qnf,hf]
 rfl
theorem q8c {P:Program} {t:TypeId} {z:Value} (h:(P.info? t).bind (fun i=>i.zero)=some z) (w:World):(zeroValue t).run P w = .ok z w:=by
 cases hi:P.info? t with
 |none=>rw [hi] at h;simp at h
 |some i=>
  rw [hi] at h
  simp only [Option.bind_some] at h
  simp [zeroValue,typeInfo,hi,h]
theorem qyj {t kt vt:TypeId} {kd:TypeDesc} {x y:Operand} {o:Nat} {k z:Value} {kvs:List (Value×Value)} {r:Option (Nat×Value)} (hx:qj N s x = .mp o) (hy:qj N s y = .v k) (ho:s.st[o]? = some (.map kvs))
  (hu:E.P.underlying t=some (.map kt vt)) (hk:E.P.underlying kt=some kd) (hck:mkey kd k=true) (hf:qd6 kd k kvs 0=some r) (hz:(E.P.info? vt).bind (fun i=>i.zero)=some z)
  (h:AOps E rd N ops rest K (s.put d (.v (mval z r)))):AOps E rd N ops (⟨d,.lookup t x y false,T,p,af,none⟩::rest) K s:=by
 refine q7 rfl (qz nofun fun B0 w0 G a w _ hI=>?_)
 have hv:=hI.evalv hy
 have he:=hI.eval_of hx
 generalize hvx:a.eval x=v at he
 cases he with
 |mp _ b hn hr hb=>
  obtain⟨_,_,es,clock,h4,h5⟩:=hI.agree.ob o _ ho
  rw [hb] at h4
  subst h5
  refine⟨_,w,G,_,s.st,?_,.refl G,hI.agree,.v _,h⟩
  have hlk:(Instr.lookup t (.map (some b)) k false).run E.P w = .ok (mval z r) w:=by
   unfold Instr.lookup
   rw [Sem.run_bind,run_underlying hu]
   simp only [Result.andThen_ok,Sem.run_bind]
   simp only [getObj,Sem.run,h4,Result.andThen_ok,Sem.run_bind,Sem.run_pure]
   rw [show (10000:Nat)=9999+1 from rfl,qma hk hck]
   simp only [Result.andThen_ok]
   rw [qnt hk hf]
   cases r with
   |none=>simp [q8c hz,mval]
   |some q=>simp [mval]
  simp only [execOp,hvx,hv]
  rw [Sem.run_bind,hlk]
  rfl
theorem qyk {t kt vt:TypeId} {kd:TypeDesc} {x y q:Operand} {o:Nat} {k u:Value} {kvs:List (Value×Value)} {r:Option (Nat×Value)} (hx:qj N s x = .mp o) (hy:qj N s y = .v k) (hq:qj N s q = .v u) (ho:s.st[o]? = some (.map kvs))
  (hu:E.P.underlying t=some (.map kt vt)) (hk:E.P.underlying kt=some kd) (hck:mkey kd k=true) (hf:qd6 kd k kvs 0=some r)
  (h:AOps E rd N ops rest K (AS.put ⟨s.t,s.st.set o (.map (mset kvs k u r)),s.df⟩ d (.v undef))):AOps E rd N ops (⟨d,.mapUpdate t x y q,T,p,af,none⟩::rest) K s:=by
 refine q7 rfl (qm5 nofun fun B0 w0 G a w _ hI=>?_)
 have hv:=hI.evalv hy
 have hv2:=hI.evalv hq
 have he:=hI.eval_of hx
 generalize hvx:a.eval x=v at he
 cases he with
 |mp _ b hn hr hb=>
  obtain⟨hraw,hge,es,clock,h4,h5⟩:=hI.agree.ob o _ ho
  subst h5
  have key:∀ (es':Array MapEntry) (clock':Nat),es'.toList.map (fun e=>(e.key,e.val))=mset (es.toList.map fun e=>(e.key,e.val)) k u r →
    (Instr.mapUpdate t (.map (some b)) k u).run E.P w = .ok () (w.putObj b (.map es' clock'))→∃ w' G' st',(execOp a.eval ⟨d,.mapUpdate t x y q,T,p,af,none⟩).run E.P w = .ok .skip w'∧G.le G'∧zl B0 w0 G' st' w'∧AOps E rd N ops rest K (AS.put ⟨s.t,st',s.df⟩ d (.v undef)):=fun es' clock' he hrun=>by
   refine⟨_,G,_,?_,.refl G,hI.agree.putRaw (x':=.map (mset (es.toList.map fun e=>(e.key,e.val)) k u r)) (y':=.map es' clock') ho trivial hraw h4 (by simp) ⟨hraw,hge,es',clock',?_,he⟩,h⟩
   ·simp only [execOp,hvx,hv,hv2]
    rw [Sem.run_bind,hrun,hb]
    rfl
   ·have hlt:(G.ob o).blk<w.heap.size:=(Array.getElem?_eq_some_iff.1 h4).1
    simp [World.putObj,hlt]
  rw [hb] at h4
  have hcommon:(Instr.mapUpdate t (.map (some b)) k u).run E.P w=(match r with
   |some (i,_)=>(do
     let key ← Instr.keyThatStays (((es[i]?).map (fun e:MapEntry=>e.key)).getD k) k
     setObj b (.map (es.modify i fun e:MapEntry=>{ e with key,val:=u }) clock):Sem Unit)
   |none=>(setObj b (.map (es.push { key:=k,val:=u,born:=clock }) (clock+1)):Sem Unit)).run E.P w:=by
   unfold Instr.mapUpdate
   rw [Sem.run_bind,run_underlying hu]
   simp only [Result.andThen_ok,Sem.run_bind]
   simp only [getObj,Sem.run,h4,Result.andThen_ok,Sem.run_bind]
   rw [show (10000:Nat)=9999+1 from rfl,qma hk hck]
   simp only [Result.andThen_ok]
   rw [qnt hk hf]
   simp only [Result.andThen_ok]
   cases r with
   |none=>rfl
   |some q=>rfl
  cases r with
  |none=>
   refine key (es.push { key:=k,val:=u,born:=clock }) (clock+1) (by simp [mset]) ?_
   rw [hcommon]
   simp [setObj,Sem.run,World.putObj,h4]
  |some q=>
   obtain⟨i,v0⟩:=q
   obtain⟨_,q0,hq1,hq2⟩:=qwq hf
   rw [Nat.sub_zero,List.getElem?_map] at hq1
   obtain⟨e0,he0,he1⟩:=Option.map_eq_some_iff.1 hq1
   simp only [Prod.mk.injEq] at he1
   obtain⟨rfl,rfl⟩:=he1
   have hsb:Instr.sameBits 10000 e0.key k=true:=by
    unfold mkey at hck
    split at hck
    ·unfold Instr.sameNow at hq2
     split at hq2
     ·simp at *
     ·rename_i s1 s2 e1 e2 e3
      have hq3:s1=s2:=(Go.MapKept.bytes_beq _ _).1 (Option.some.inj hq2)
      subst hq3
      rw [e3,← e2]
      simp only [Instr.sameBits]
      exact (Go.MapKept.bytes_beq _ _).2 rfl
     ·simp at *
     ·simp at hq2
    ·unfold Instr.sameNow at hq2
     split at hq2
     ·rename_i k1 a1 k2 b1 e1 e2 e3
      split at hq2
      ·rename_i ek
       subst ek
       simp only [Option.some.injEq,beq_iff_eq] at hq2
       subst hq2
       rw [e3,← e2]
       simp [Instr.sameBits]
      ·simp at hq2
     ·simp at *
     ·simp at *
     ·simp at hq2
    ·simp at hck
   refine key (es.modify i fun e:MapEntry=>{ e with key:=k,val:=u }) clock ?_ ?_
   ·simp only [mset,Array.toList_modify]
    apply List.ext_getElem?
    intro j
    rw [List.getElem?_map,List.getElem?_modify,List.getElem?_set,List.getElem?_map]
    by_cases e:i=j
    ·subst e
     rw [he0]
     have:=(List.getElem?_eq_some_iff.1 he0).1
     simp at this ⊢
     exact this
    ·simp [e]
   ·rw [hcommon]
    have:es[i]? = some e0:=by simpa using he0
    simp [this,Instr.keyThatStays,hsb,setObj,Sem.run,World.putObj,h4]
end
end Go.Av
namespace Go.Av
open Go Go.RowKit
structure mapP (kvs:List (Value×Value)) (x:AObj) (c:AV):Prop where
 ob:x = .map kvs
 mp:∃ o,c = .mp o
section
variable {E : Env} {N : Nat} {ops : Array Oper} {nx : Nat} {sl : List (Nat × SV)} {H : Nat → Option SR} {k : Ef → Prop} {d : Option Tmp} {T : TypeId} {p : String} {af : Array Edge}
theorem zal {t:TypeId} (h:k ⟨.tp nx,[],[(nx,some (.obj (mapP [])))],nx+1⟩):∃ e,Loc E N ops ⟨d,.makeMap t none,T,p,af,none⟩ nx sl H e∧k e:=by
 refine⟨_,qjk (fun k r hk=>by rw [qh4] at hk;simp at hk) fun df rd K rest ρ t1 S ho _ hk=>qvc ?_,h⟩
 have:=hk (.mp S.length) [.map []] ⟨S.length,_,rfl,qbd,by simp,rfl,_,rfl⟩ (fun o ho=>by simp only [z6,Option.some.injEq] at ho;omega)
 simpa [SV.ev,xd,tpAt,AV.one] using this
theorem zak {t kt vt:TypeId} {kd:TypeDesc} {x y:Operand} {b:Nat} {kvs:List (Value×Value)} {v:SV} {kv z:Value} {r:Option (Nat×Value)} {n:Int} (hx:sval N sl x=some (.tp b)) (hH:H b=some (.obj (mapP kvs))) (hy:sval N sl y=some v) (hv:∀ ρ,v.ev ρ = .v kv)
  (hu:E.P.underlying t=some (.map kt vt)) (hk:E.P.underlying kt=some kd) (hck:mkey kd kv=true) (hf:qd6 kd kv kvs 0=some r) (hz:(E.P.info? vt).bind (fun i=>i.zero)=some z) (hn:mval z r = .int .i64 n)
  (h:k ⟨.i n,[b],[],nx⟩):∃ e,Loc E N ops ⟨d,.lookup t x y false,T,p,af,none⟩ nx sl H e∧k e:=by
 refine⟨_,qax (v:=.i n) fun df rd K rest ρ t' S hs hS hk2=>?_,h⟩
 obtain⟨o,x',h1,h2,_,rfl,o',e1⟩:=hS.ok b _ ((y9 b).trans hH)
 rw [e1] at h1
 simp only [z6,Option.some.injEq] at h1
 subst h1
 refine qyj (o:=o') ((q6 hs hx).trans (by simp [SV.ev,e1,tpAt,AV.one])) ((q6 hs hy).trans (hv ρ)) h2 hu hk hck hf hz ?_
 rw [hn]
 exact hk2
theorem zam {t kt vt:TypeId} {kd:TypeDesc} {x y q:Operand} {b:Nat} {kvs:List (Value×Value)} {v w:SV} {kv u:Value} {r:Option (Nat×Value)} (hx:sval N sl x=some (.tp b)) (hH:H b=some (.obj (mapP kvs))) (hy:sval N sl y=some v) (hv:∀ ρ,v.ev ρ = .v kv) (hq:sval N sl q=some w) (hw:∀ ρ,w.ev ρ = .v u)
  (hu:E.P.underlying t=some (.map kt vt)) (hk:E.P.underlying kt=some kd) (hck:mkey kd kv=true) (hf:qd6 kd kv kvs 0=some r)
  (h:k ⟨.a (.v undef),[b],[(b,some (.obj (mapP (mset kvs kv u r))))],nx⟩):∃ e,Loc E N ops ⟨d,.mapUpdate t x y q,T,p,af,none⟩ nx sl H e∧k e:=by
 refine⟨_,fun df rd K rest ρ t' S hs hS hk2=>?_,h⟩
 obtain⟨o,x',h1,h2,_,rfl,o',e1⟩:=hS.ok b _ ((y9 b).trans hH)
 rw [e1] at h1
 simp only [z6,Option.some.injEq] at h1
 subst h1
 refine qyk (o:=o') ((q6 hs hx).trans (by simp [SV.ev,e1,tpAt,AV.one])) ((q6 hs hy).trans (hv ρ)) ((q6 hs hq).trans (hw ρ)) h2 hu hk hck hf ?_
 have key:∀ k r',chF [(b,some (.obj (mapP (mset kvs kv u r))))] (resF [b] H) k=some r'→k=b∧r' = .obj (mapP (mset kvs kv u r)):=fun k r' hk=>by
  simp only [chF,lkS] at hk
  by_cases e:b=k
  ·subst e
   have:Nat.beq b b=true:=by simp
   rw [this] at hk
   simp only [cond_true,Option.some.injEq] at hk
   exact⟨rfl,hk.symm⟩
  ·rw [wb e] at hk
   have:=(yn hk).1
   simp only [memN,List.any_cons,List.any_nil,Bool.or_false] at this
   exact absurd (Nat.eq_of_beq_eq_true this).symm e
 refine hk2 ρ _ ⟨fun _ _=>rfl,⟨fun k r' hk=>?_,fun k k' r1 r2 hne g1 g2=>?_⟩,by simp,fun j hj hne=>?_,fun k r' hk o' ho'=>?_⟩
 ·obtain⟨rfl,rfl⟩:=key k r' hk
  exact⟨o',_,by rw [e1];rfl,qcn h2,by simp,rfl,o',e1⟩
 ·exact absurd ((key k r1 g1).1.trans (key k' r2 g2).1.symm) hne
 ·have:=hne b _ ((y9 b).trans hH)
  rw [e1] at this
  exact List.getElem?_set_ne (fun e=>this (by rw [e];rfl))
 ·obtain⟨rfl,rfl⟩:=key k r' hk
  exact .inr ⟨k,_,(y9 k).trans hH,ho'⟩
end
end Go.Av
namespace Go.Av
open Go Go.RowKit
def getM {α : Type} [DecidableEq α] (s : α):List (α×Int)→Int
 | []=>0
 |q::r=>if q.1=s then q.2 else getM s r
def setM {α : Type} [DecidableEq α] (s : α) (n:Int):List (α×Int)→List (α×Int)
 | []=>[(s,n)]
 |q::r=>if q.1=s then (s,n)::r else q::setM s n r
theorem qwe {α : Type} [DecidableEq α] (s t : α) (n:Int):∀ (L:List (α×Int)),getM t (setM s n L)=if t=s then n else getM t L
 | []=>by
  unfold setM getM getM
  by_cases h:t=s
  ·rw [if_pos h,if_pos h.symm]
  ·rw [if_neg h,if_neg fun e=>h e.symm]
 |q::r=>by
  have ih:=qwe s t n r
  unfold setM
  by_cases hq:q.1=s
  ·rw [if_pos hq]
   unfold getM
   by_cases h:t=s
   ·rw [if_pos h,if_pos h.symm]
   ·rw [if_neg h,if_neg fun e=>h e.symm,if_neg fun e=>h (e.symm.trans hq)]
  ·rw [if_neg hq]
   unfold getM
   rw [ih]
   by_cases ht:q.1=t
   ·rw [if_pos ht,if_pos ht,if_neg fun e=>hq (ht.trans e)]
   ·rw [if_neg ht,if_neg ht]
section
variable {α : Type} [DecidableEq α] {kd : TypeDesc} {key : α → Value}
def kvM (key : α→Value) (q : α×Int):Value×Value:=(key q.1,.int .i64 q.2)
theorem qrt (hs:∀ a b,Instr.sameNow kd (key a) (key b)=some (decide (b=a))) (s : α) (n:Int):∀ (L:List (α×Int)) (pre:List (Value×Value)),∃ r,qd6 kd (key s) (L.map (kvM key)) pre.length=some r∧mval (.int .i64 0) r = .int .i64 (getM s L)∧mset (pre++L.map (kvM key)) (key s) (.int .i64 n) r=pre++(setM s n L).map (kvM key)
 | [],pre=>⟨none,rfl,rfl,by simp [mset,setM,kvM]⟩
 |q::r,pre=>by
  rw [List.map_cons,qd6]
  show ∃ r',(match Instr.sameNow kd (key s) (key q.1) with|some true=>_|some false=>_|none=>_)=some r'∧_
  rw [hs]
  unfold getM setM
  by_cases h:q.1=s
  ·rw [if_pos h,if_pos h]
   simp only [h,decide_true]
   refine⟨_,rfl,rfl,?_⟩
   simp only [mset]
   rw [List.set_append_right _ _ (Nat.le_refl _),Nat.sub_self]
   rfl
  ·rw [if_neg h,if_neg h]
   simp only [h,decide_false]
   obtain⟨r',h1,h2,h3⟩:=qrt hs s n r (pre++[kvM key q])
   rw [List.length_append,List.length_singleton] at h1
   exact⟨r',h1,h2,by simpa using h3⟩
variable {E : Env} {N : Nat} {ops : Array Oper} {nx : Nat} {sl : List (Nat × SV)} {H : Nat → Option SR} {k : Ef → Prop} {d : Option Tmp} {T : TypeId} {p : String} {af : Array Edge}
theorem q7i {t kt vt:TypeId} {x y:Operand} {b:Nat} {L:List (α×Int)} {v:SV} {s : α} (hs:∀ a b,Instr.sameNow kd (key a) (key b)=some (decide (b=a))) (hx:sval N sl x=some (.tp b)) (hH:H b=some (.obj (mapP (L.map (kvM key))))) (hy:sval N sl y=some v) (hv:∀ ρ,v.ev ρ = .v (key s))
  (hu:E.P.underlying t=some (.map kt vt)) (hk:E.P.underlying kt=some kd) (hck:mkey kd (key s)=true) (hz:(E.P.info? vt).bind (fun i=>i.zero)=some (.int .i64 0))
  (h:k ⟨.i (getM s L),[b],[],nx⟩):∃ e,Loc E N ops ⟨d,.lookup t x y false,T,p,af,none⟩ nx sl H e∧k e:=by
 obtain⟨r,h1,h2,_⟩:=qrt hs s 0 L []
 exact zak hx hH hy hv hu hk hck h1 hz h2 h
theorem q7j {t kt vt:TypeId} {x y q:Operand} {b:Nat} {L:List (α×Int)} {v w:SV} {s : α} {n:Int} (hs:∀ a b,Instr.sameNow kd (key a) (key b)=some (decide (b=a))) (hx:sval N sl x=some (.tp b)) (hH:H b=some (.obj (mapP (L.map (kvM key))))) (hy:sval N sl y=some v) (hv:∀ ρ,v.ev ρ = .v (key s)) (hq:sval N sl q=some w) (hw:∀ ρ,w.ev ρ = .v (.int .i64 n))
  (hu:E.P.underlying t=some (.map kt vt)) (hk:E.P.underlying kt=some kd) (hck:mkey kd (key s)=true)
  (h:k ⟨.a (.v undef),[b],[(b,some (.obj (mapP ((setM s n L).map (kvM key)))))],nx⟩):∃ e,Loc E N ops ⟨d,.mapUpdate t x y q,T,p,af,none⟩ nx sl H e∧k e:=by
 obtain⟨r,h1,_,h3⟩:=qrt hs s n L []
 rw [List.nil_append,List.nil_append] at h3
 rw [← h3] at h
 exact zam hx hH hy hv hq hw hu hk hck h1 h
end
def keyS (l:List UInt8):Value:=.string ⟨l.toArray⟩
theorem q5j (a b:List UInt8):Instr.sameNow .string (keyS a) (keyS b)=some (decide (b=a)):=by
 show some ((⟨a.toArray⟩:ByteArray) == ⟨b.toArray⟩)=_
 congr 1
 by_cases h:b=a
 ·subst h
  rw [decide_eq_true rfl]
  exact (Go.MapKept.bytes_beq _ _).2 rfl
 ·rw [decide_eq_false h]
  refine Bool.eq_false_iff.2 fun e=>h ?_
  have:=(Go.MapKept.bytes_beq _ _).1 e
  have:=congrArg (fun x:ByteArray=>x.data.toList) this
  simpa using this.symm
end Go.Av
namespace Go.Pl
open Go Go.Proofs
structure zq where
 kind:Int
 raw:qe
 fields:List Fld
structure PSt where
 lines:List qe
 frm:Int
 full:Bool
 items:List zq
 block:List qe
 fields:List Fld
 records:Int
def kw (p:PSt):Option (Int×Int)×PSt:=
 if p.lines=[] then (none,p)
 else if (jp p.lines).2≠0 then (some (p.frm,(jp p.lines).2),p)
 else if p.full=true then (some (p.frm,11),p)
 else (none,{ p with lines:=[],fields:=p.fields++[(jp p.lines).1] })
end Go.Pl
namespace Go.Proofs.YtneejjefekdgjaaGreatDoor
open Go Go.Av Go.RowKit Go.Proofs Go.Pl
@[reducible] def xf (x : zq) : AV := .ag [Iv x.kind, Sv x.raw, kc x.fields]
@[reducible] def x5 (xs : List zq) : AV := .sl 3 (xs.map xf) none
@[reducible] def parC (c1 c2 c3 c4 : AV) (p : PSt) : List AV := [c1, Iv p.frm, Bv p.full, c2, c3, c4, Iv p.records]
@[reducible] def parO (c1 c2 c3 c4 : AV) (p : PSt) : AObj := .cells 0 140 (parC c1 c2 c3 c4 p)
structure ParS (b o:Nat) (p:PSt) (st:List AObj) (c1 c2 c3 c4:AV):Prop where
 lt:o<b
 le:b≤st.length
 ob:st[o]? = some (parO c1 c2 c3 c4 p)
 h1:TipC b st 1 9 (p.lines.map fun x=>Sv x) c1
 h2:TipC b st 3 52 (p.items.map xf) c2
 h3:TipC b st 1 9 (p.block.map fun x=>Sv x) c3
 h4:TipC b st 2 111 (p.fields.map fldA) c4
 ne:∀ t xs ys,c1 = .sl 1 xs (some t)→c3 = .sl 1 ys (some t)→False
structure Keep (b o:Nat) (st st':List AObj):Prop where
 len:st.length≤st'.length
 same:∀ k,k≠o→k<st.length→(k<b∨qhz st[k]?)→st'[k]? = st[k]?
theorem Keep.trans {b o:Nat} {st st' st'':List AObj} (h:Keep b o st st') (k:Keep b o st' st''):Keep b o st st'':=⟨Nat.le_trans h.len k.len,fun i hne hi hc=>by
 have e:=h.same i hne hi hc
 refine (k.same i hne (Nat.lt_of_lt_of_le hi h.len) ?_).trans e
 rw [e]
 exact hc⟩
def qgh (a n:Int):AV:=.ifc 121 (.pp [Iv a,.ifc 62 (Iv n)])
def errP:Option (Int×Int)→AV
 |none=>.v .nilIface
 |some (a,n)=>qgh a n
theorem qi1 (a n:Int):Pure (qgh a n):=qf2 (q0d fun x hx=>by
 simp only [List.mem_cons,List.not_mem_nil,or_false] at hx
 rcases hx with rfl|rfl
 ·exact qy _
 ·exact qf2 (qy _))
theorem qkg (a n:Int) (st:List AObj):qp E 124 [Iv a,.ifc 62 (Iv n)] st fun r st'=>r=qgh a n∧st'=st:=by
 refine zi (qi1 a n) (qt Tryz.func124 rfl (Nat.le_of_ble_eq_true rfl) ?_)
 repeat' (first|(apply qk9;(iterate 3 exact rfl))|apply qr|apply ql|apply qk|apply qo|apply qm|(apply q9;exact rfl;exact rfl)|(apply ju;(iterate 3 exact rfl))|apply zb)
 exact qq rfl (zf rfl) ⟨rfl,_,rfl⟩
theorem q2s (ls:List qe) (t:Option Nat) (st:List AObj) (hB:LsB ls) (h:(jp ls).2=0):qp E 210 [.sl 1 (ls.map fun x=>Sv x) t] st fun r st'=>r = .tu [fldA (jp ls).1,.v .nilIface]∧st'=st:=by
 have:=qk1 ls st hB
 unfold qf3 at this
 rw [h] at this
 exact qm4 (qkw _ _ _) this
theorem q2t (ls:List qe) (t:Option Nat) (st:List AObj) (hB:LsB ls) (h:(jp ls).2≠0):qp E 210 [.sl 1 (ls.map fun x=>Sv x) t] st fun r st'=>r = .tu [fldA (jp ls).1,.ifc 62 (Iv (jp ls).2)]∧st'=st:=by
 have:=qk1 ls st hB
 unfold qf3 at this
 rw [qjf h] at this
 exact qm4 (qkw _ _ _) this
structure PB (n:Nat) (p:PSt):Prop where
 small:n<900000
 lines:p.lines.length≤n
 linesV:∀ s∈p.lines,s.length<1000000
 items:p.items.length≤n
 block:p.block.length≤n
 blockV:∀ s∈p.block,s.length<1000000
 fields:p.fields.length≤n
 rec0:0≤p.records
 rec1:p.records≤n
theorem PB.ls {n:Nat} {p:PSt} (h:PB n p):LsB p.lines:=⟨by have:=h.lines;have:=h.small;omega,h.linesV⟩
theorem ParS.pre {b o:Nat} {p:PSt} {st l:List AObj} {c1 c2 c3 c4:AV} (P:ParS b o p st c1 c2 c3 c4):ParS b o p (st++l) c1 c2 c3 c4:=
 ⟨P.lt,by have:=P.le;simp;omega,qex P.ob,qh7 P.h1,qh7 P.h2,qh7 P.h3,qh7 P.h4,P.ne⟩
end Go.Proofs.YtneejjefekdgjaaGreatDoor
namespace Go.Pl
open Go Go.Proofs
def qaq (p:PSt):PSt:=
 if p.block=[] then { p with block:=[],fields:=[] }
 else { p with items:=p.items++[⟨if p.fields=[] then 2 else 3,zv p.block,p.fields⟩],records:=if p.fields=[] then p.records else p.records+1,block:=[],fields:=[] }
def endP (p:PSt):Option (Int×Int)×PSt:=match (kw p).1 with
 |some e=>(some e,p)
 |none=>(none,qaq (kw p).2)
theorem qlp:∀ (x:qe) (r:List qe),Lib.join (x::r) [10]++[10]=zv (x::r)
 |x,[]=>by rw [Lib.join_one];simp [zv]
 |x,y::r=>by
  have ih:=qlp y r
  rw [Lib.join_cons] at ih ⊢
  unfold Lib.joinTail at ih ⊢
  simp only [List.map_cons,List.flatten_cons,zv,List.flatMap_cons] at ih ⊢
  rw [← ih]
  simp
theorem qkt:∀ (r:List qe),(∀ s∈r,s.length<1000000)→(zv r).length≤1000001 * r.length
 | [],_=>by simp [zv]
 |a::r,h=>by
  have ih:=qkt r fun s hs=>h s (by simp [hs])
  have ha:=h a (by simp)
  simp only [zv,List.flatMap_cons,List.length_append,List.length_cons,List.length_nil] at ih ⊢
  omega
end Go.Pl
namespace Go.Proofs.YtneejjefekdgjaaGreatDoor
open Go Go.Av Go.RowKit Go.Proofs Go.Pl
theorem qgj {n:Nat} {p:PSt} (h:PB n p) (hs:n+1<900000):PB (n+1) (kw p).2:=by
 have h1:=h.lines;have h2:=h.items;have h3:=h.block;have h4:=h.fields;have h5:=h.rec0;have h6:=h.rec1
 unfold kw
 split
 ·exact⟨hs,by simp only;omega,h.linesV,by simp only;omega,by simp only;omega,h.blockV,by simp only;omega,h5,by simp only;omega⟩
 ·split
  ·exact⟨hs,by simp only;omega,h.linesV,by simp only;omega,by simp only;omega,h.blockV,by simp only;omega,h5,by simp only;omega⟩
  ·split
   ·exact⟨hs,by simp only;omega,h.linesV,by simp only;omega,by simp only;omega,h.blockV,by simp only;omega,h5,by simp only;omega⟩
   ·exact⟨hs,by simp,by simp,by simp only;omega,by simp only;omega,h.blockV,by simp;omega,h5,by simp only;omega⟩
theorem q96 (xs:List qe) (tip:Option Nat) (st:List AObj) (hne:xs≠[]) (hN:xs.length≤900000) (hv:∀ s∈xs,s.length<1000000):qp E 127 [.sl 1 (xs.map fun x=>Sv x) tip,Sv [10]] st fun r st'=>r=Sv (Lib.join xs [10])∧st'=st:=by
 refine q4e xs tip [10] st (by omega) ?_
 have h1:=qkt xs hv
 cases xs with
 |nil=>exact absurd rfl hne
 |cons x r=>
  have h2:=congrArg List.length (qlp x r)
  rw [List.length_append] at h2
  simp only [List.length_cons,List.length_nil] at h2 h1 hN
  omega
def parH (a:Nat) (p:PSt):List (Nat×Option SR):=[(0,some (.cells 140 [.tp a,.i p.frm,.b p.full,.tp (a+1),.tp (a+2),.tp (a+3),.i p.records])),(a,some (.tip 1 9 (p.lines.map fun x=>Sv x))),(a+1,some (.tip 3 52 (p.items.map xf))),(a+2,some (.tip 1 9 (p.block.map fun x=>Sv x))),(a+3,some (.tip 2 111 (p.fields.map fldA)))]
theorem qob (n:Nat) (p:PSt) (hB:PB n p):x4 E 126 [.bx 0 0] 5 (hpF (parH 1 p)) ⟨.a (errP (kw p).1),x2 (parH 1 p),parH 5 (kw p).2++ym (parH 1 p),9⟩:=by
 refine qap [.bx 0 0] (parH 1 p) 5 (.a (errP (kw p).1)) (parH 5 (kw p).2) 9 Tryz.func126 rfl rfl rfl rfl fun S F ρ=>?_
 have hls:=hB.ls
 have hsm:=hB.small
 have hfl:=hB.fields
 by_cases h0:p.lines=[]
 ·have e:kw p=(none,p):=by unfold kw;rw [if_pos h0]
  rw [e]
  have hl0:(p.lines.map fun x=>Sv x).length=0:=by simp [h0]
  apply qg []
  repeat' (first|apply And.intro|(intro h;try exact cDd)|exact cSd|apply qd []|refine exr ?_|refine qh ?_)
 ·have hl0:(p.lines.map fun x=>Sv x).length≠0:=by simp [h0]
  by_cases hu:(jp p.lines).2=0
  ·have hun:=fun st=>q2s p.lines none st hls hu
   cases hf:p.full with
   |true=>
    have e:kw p=(some (p.frm,11),p):=by unfold kw;rw [if_neg h0,if_neg (by simp [hu]),if_pos hf]
    rw [e]
    have hft:=fun st=>qkg p.frm 11 st
    apply qg []
    repeat' (first|apply And.intro|(intro h;try exact cDd)|exact⟨Tryz.call210⟩|refine cpe hun ?_|exact⟨Tryz.call124⟩|refine cpe hft ?_|(exact absurd (by assumption:p.full=false) (by rw [hf];decide))|exact cSd|apply qd []|refine exr ?_|refine qh ?_)
   |false=>
    have e:kw p=(none,{ p with lines:=[],fields:=p.fields++[(jp p.lines).1] }):=by unfold kw;rw [if_neg h0,if_neg (by simp [hu]),if_neg (by simp [hf])]
    rw [e]
    apply qg [51]
    repeat' (first|apply And.intro|(intro h;try exact cDd)|exact⟨Tryz.call210⟩|refine cpe hun ?_|(exact absurd (by assumption:p.full=true) (by rw [hf];decide))|exact cSd|apply qd [51]|refine exr ?_|refine qh ?_)
    all_goals first|(simp [SV.evs,SV.ev];done)|(simp [SV.evs];omega)
  ·have hun:=fun st=>q2t p.lines none st hls hu
   have e:kw p=(some (p.frm,(jp p.lines).2),p):=by unfold kw;rw [if_neg h0,if_pos hu]
   rw [e]
   have hft:=fun st=>qkg p.frm (jp p.lines).2 st
   apply qg []
   repeat' (first|apply And.intro|(intro h;try exact cDd)|exact⟨Tryz.call210⟩|refine cpe hun ?_|exact⟨Tryz.call124⟩|refine cpe hft ?_|exact cSd|apply qd []|refine exr ?_|refine qh ?_)
theorem q0a (n:Nat) (p:PSt) (hB:PB n p) (hs:n+1<900000):x4 E 69 [.bx 0 0] 5 (hpF (parH 1 p)) ⟨.a (errP (endP p).1),x2 (parH 1 p),parH 5 (endP p).2++ym (parH 1 p),9⟩:=by
 refine qap [.bx 0 0] (parH 1 p) 5 (.a (errP (endP p).1)) (parH 5 (endP p).2) 9 Tryz.func69 rfl rfl rfl rfl fun S F ρ=>?_
 have hfc:=qob n p hB
 have hB2:=qgj hB hs
 have hsame:∀ e,(kw p).1=some e→(kw p).2=p:=fun e=>by
  unfold kw
  split
  ·simp
  ·split
   ·simp
   ·split
    ·simp
    ·simp
 unfold endP
 generalize kw p=fq at hfc hB2 hsame
 obtain⟨fe,q⟩:=fq
 cases fe with
 |some e=>
  obtain rfl:=hsame e rfl
  obtain⟨a,k⟩:=e
  apply qg []
  repeat' (first|apply And.intro|(intro h;try exact cDd)|exact⟨Tryz.call126⟩|(refine kl hfc ?_)|exact cSd|apply qd []|refine exr ?_|refine qh ?_)
 |none=>
  dsimp only at hB2 hfc
  have h3:=hB2.fields
  have h4:=hB2.rec0
  have h5:=hB2.rec1
  have h1:=hB2.block
  have h2:=hB2.items
  by_cases hb:q.block=[]
  ·have e:qaq q={ q with block:=[],fields:=[] }:=by unfold qaq;rw [if_pos hb]
   simp only [e]
   have hl0:(q.block.map fun x=>Sv x).length=0:=by simp [hb]
   apply qg []
   repeat' (first|apply And.intro|(intro h;try exact cDd)|exact⟨Tryz.call126⟩|(refine kl hfc ?_)|exact cSd|apply qd []|refine exr ?_|refine qh ?_)
  ·have hl0:(q.block.map fun x=>Sv x).length≠0:=by simp [hb]
   have hbl:=qkt q.block hB2.blockV
   obtain⟨b,r,hbr⟩:∃ b r,q.block=b::r:=by
    cases hq:q.block with
    |nil=>exact absurd hq hb
    |cons b r=>exact⟨b,r,rfl⟩
   have hjt:=qlp b r
   rw [← hbr] at hjt
   have hjl:=congrArg List.length hjt
   simp only [List.length_append,List.length_cons,List.length_nil] at hjl
   have hjo:=fun st=>q96 q.block none st hb (by omega) hB2.blockV
   by_cases hf:q.fields=[]
   ·have e:qaq q={ q with items:=q.items++[⟨2,zv q.block,q.fields⟩],records:=q.records,block:=[],fields:=[] }:=by unfold qaq;rw [if_neg hb,if_pos hf,if_pos hf]
    simp only [e]
    have hl1:(q.fields.map fldA).length=0:=by simp [hf]
    apply qg []
    repeat' (first|apply And.intro|(intro h;try exact cDd)|exact⟨Tryz.call126⟩|(refine kl hfc ?_)|exact⟨Tryz.call127⟩|refine cpe hjo ?_|exact cSd|apply qd []|refine exr ?_|refine qh ?_)
    all_goals first|(simp [SV.evs,SV.ev,hjt];done)|(simp [SV.evs];omega)
   ·have e:qaq q={ q with items:=q.items++[⟨3,zv q.block,q.fields⟩],records:=q.records+1,block:=[],fields:=[] }:=by unfold qaq;rw [if_neg hb,if_neg hf,if_neg hf]
    simp only [e]
    have hl1:(q.fields.map fldA).length≠0:=by simp [hf]
    apply qg []
    repeat' (first|apply And.intro|(intro h;try exact cDd)|exact⟨Tryz.call126⟩|(refine kl hfc ?_)|exact⟨Tryz.call127⟩|refine cpe hjo ?_|exact cSd|apply qd []|refine exr ?_|refine qh ?_)
    all_goals first|(simp [SV.evs,SV.ev,hjt];done)|(simp [SV.evs];omega)
end Go.Proofs.YtneejjefekdgjaaGreatDoor
namespace Go.Pl
open Go Go.Proofs
def wr (p:PSt) (no:Int) (text:qe):PSt:={ p with lines:=[text],frm:=no,full:=decide (p.fields.length=40∨(p.fields.length=0∧p.records=400)) }
def ki (p:PSt) (no:Int) (text:qe) (ended:Bool) (kind:Int):Option (Int×Int)×PSt:=
 if kind=3 then
  if p.lines=[] then (some (no,2),p)
  else if ended=true then (none,{ p with lines:=p.lines++[text] })
  else kw { p with lines:=p.lines++[text] }
 else if kind=1 then endP p
 else kw p
def yr (p:PSt) (no:Int) (text:qe) (ended:Bool):Option (Int×Int)×PSt:=
 match (ki p no text ended (qs text)).1 with
 |some e=>(some e,p)
 |none=>
  if qs text=5∨ended=false then (some (no,2),p)
  else if qs text=1 then (none,{ (ki p no text ended (qs text)).2 with items:=(ki p no text ended (qs text)).2.items++[⟨1,text++[10],[]⟩] })
  else if qs text=4 then (none,{ wr (ki p no text ended (qs text)).2 no text with block:=(ki p no text ended (qs text)).2.block++[text] })
  else (none,{ (ki p no text ended (qs text)).2 with block:=(ki p no text ended (qs text)).2.block++[text] })
end Go.Pl
namespace Go.Proofs.YtneejjefekdgjaaGreatDoor
open Go Go.Av Go.RowKit Go.Proofs Go.Pl
theorem PB.more {n m:Nat} {p:PSt} (h:PB n p) (hm:n≤m) (hs:m<900000):PB m p:=by
 have h1:=h.lines;have h2:=h.items;have h3:=h.block;have h4:=h.fields;have h5:=h.rec0;have h6:=h.rec1
 exact⟨hs,by omega,h.linesV,by omega,by omega,h.blockV,by omega,h5,by omega⟩
theorem q3t {n:Nat} {p:PSt} (h:PB n p) (hs:n+1<900000):PB (n+1) (qaq p):=by
 have h1:=h.lines;have h2:=h.items;have h3:=h.block;have h4:=h.fields;have h5:=h.rec0;have h6:=h.rec1
 unfold qaq
 split
 ·exact⟨hs,by simp only;omega,h.linesV,by simp only;omega,by simp,by simp,by simp,h5,by simp only;omega⟩
 ·refine⟨hs,by simp only;omega,h.linesV,by simp;omega,by simp,by simp,by simp,?_,?_⟩
  ·simp only;split <;> omega
  ·simp only;split <;> omega
theorem qon {n:Nat} {p:PSt} {text:qe} (h:PB n p) (hs:n+1<900000) (ht:text.length<1000000):PB (n+1) { p with lines:=p.lines++[text] }:=by
 have h1:=h.lines;have h2:=h.items;have h3:=h.block;have h4:=h.fields;have h5:=h.rec0;have h6:=h.rec1
 exact⟨hs,by simp;omega,qj9 h.linesV ht,by simp only;omega,by simp only;omega,h.blockV,by simp only;omega,h5,by simp only;omega⟩
theorem qxe {n:Nat} {p:PSt} {text:qe} (h:PB n p) (hs:n+1<900000) (ht:text.length<1000000):PB (n+1) { p with block:=p.block++[text] }:=by
 have h1:=h.lines;have h2:=h.items;have h3:=h.block;have h4:=h.fields;have h5:=h.rec0;have h6:=h.rec1
 exact⟨hs,by simp only;omega,h.linesV,by simp only;omega,by simp;omega,qj9 h.blockV ht,by simp only;omega,h5,by simp only;omega⟩
theorem q7y {n:Nat} {p:PSt} {x:zq} (h:PB n p) (hs:n+1<900000):PB (n+1) { p with items:=p.items++[x] }:=by
 have h1:=h.lines;have h2:=h.items;have h3:=h.block;have h4:=h.fields;have h5:=h.rec0;have h6:=h.rec1
 exact⟨hs,by simp only;omega,h.linesV,by simp;omega,by simp only;omega,h.blockV,by simp only;omega,h5,by simp only;omega⟩
theorem q7x {n:Nat} {p:PSt} {no:Int} {text:qe} (h:PB n p) (hs:n+1<900000) (ht:text.length<1000000):PB (n+1) (wr p no text):=by
 have h1:=h.lines;have h2:=h.items;have h3:=h.block;have h4:=h.fields;have h5:=h.rec0;have h6:=h.rec1
 exact⟨hs,by simp [wr],by simp [wr,ht],by simp only [wr];omega,by simp only [wr];omega,h.blockV,by simp only [wr];omega,h5,by simp only [wr];omega⟩
theorem qh9 {n:Nat} {p:PSt} {no:Int} {text:qe} {ended:Bool} {kind:Int} (h:PB n p) (hs:n+2<900000) (ht:text.length<1000000):PB (n+2) (ki p no text ended kind).2:=by
 unfold ki
 split
 ·split
  ·exact h.more (by omega) hs
  ·split
   ·exact (qon h (by omega) ht).more (by omega) hs
   ·exact qgj (qon h (by omega) ht) hs
 ·split
  ·unfold endP
   split
   ·exact h.more (by omega) hs
   ·exact q3t (qgj h (by omega)) hs
  ·exact (qgj h (by omega)).more (by omega) hs
theorem qqa (l:qe):1≤qs l∧qs l≤5:=by
 unfold qs
 repeat' split
 all_goals decide
theorem qow {n:Nat} {p:PSt} {no:Int} {text:qe} {ended:Bool} (h:PB n p) (hs:n+4<900000) (ht:text.length<1000000):PB (n+4) (yr p no text ended).2:=by
 have h2:PB (n+2) (ki p no text ended (qs text)).2:=qh9 h (by omega) ht
 unfold yr
 split
 ·exact h.more (by omega) hs
 ·split
  ·exact h.more (by omega) hs
  ·split
   ·exact (q7y h2 (by omega)).more (by omega) hs
   ·split
    ·exact qxe (q7x h2 (by omega) ht) hs ht
    ·exact (qxe h2 (by omega) ht).more (by omega) hs
theorem q49 (n:Nat) (p:PSt) (no at':Int) (text:qe) (ended:Bool) (hB:PB n p):x4 E 125 [.bx 0 0,.ag [.i no,.i at',.s text,.b ended]] 5 (hpF (parH 1 p)) ⟨.tu [],x2 (parH 1 p),parH 5 (wr p no text)++ym (parH 1 p),9⟩:=by
 refine qap [.bx 0 0,.ag [.i no,.i at',.s text,.b ended]] (parH 1 p) 5 (.tu []) (parH 5 (wr p no text)) 9 Tryz.func125 rfl rfl rfl rfl fun S F ρ=>?_
 obtain⟨ls,fr,fu,its,bk,fs,rc⟩:=p
 have hml:(fs.map fldA).length=fs.length:=by simp
 by_cases ha:fs.length=40∨(fs.length=0∧rc=400)
 ·have e:wr ⟨ls,fr,fu,its,bk,fs,rc⟩ no text=⟨[text],no,true,its,bk,fs,rc⟩:=by
   unfold wr
   simp only [decide_eq_true ha]
  rw [e]
  apply qg [29]
  repeat' (first|apply And.intro|(intro h;try exact cDd)|exact cSd|apply qd [29]|refine exr ?_|refine qh ?_)
  all_goals (intros;simp only [hml] at *;first|(exfalso;omega)|(have hrc:rc=400:=(by omega);subst hrc;rfl))
 ·have e:wr ⟨ls,fr,fu,its,bk,fs,rc⟩ no text=⟨[text],no,false,its,bk,fs,rc⟩:=by
   unfold wr
   simp only [decide_eq_false ha]
  rw [e]
  apply qg [29]
  repeat' (first|apply And.intro|(intro h;try exact cDd)|exact cSd|apply qd [29]|refine exr ?_|refine qh ?_)
  all_goals (intros;simp only [hml] at *;first|(exfalso;omega)|(have hrc:¬ rc=400:=(by omega);simp [SV.evs,SV.ev,SV.rens,SV.ren,lkS,yh,hrc];exact⟨rfl,rfl,rfl⟩))
theorem qtg (n:Nat) (p:PSt) (no at':Int) (text:qe) (ended:Bool) (kind:Int) (hB:PB n p) (hs:n+2<900000) (ht:text.length<1000000):x4 E 123 [.bx 0 0,.ag [.i no,.i at',.s text,.b ended],.i kind] 5 (hpF (parH 1 p)) ⟨.a (errP (ki p no text ended kind).1),x2 (parH 1 p),parH 5 (ki p no text ended kind).2++ym (parH 1 p),9⟩:=by
 refine qap [.bx 0 0,.ag [.i no,.i at',.s text,.b ended],.i kind] (parH 1 p) 5 (.a (errP (ki p no text ended kind).1)) (parH 5 (ki p no text ended kind).2) 9 Tryz.func123 rfl rfl rfl rfl fun S F ρ=>?_
 unfold ki
 by_cases hk3:kind=3
 ·rw [if_pos hk3]
  by_cases h0:p.lines=[]
  ·rw [if_pos h0]
   have hl0:(p.lines.map fun x=>Sv x).length=0:=by simp [h0]
   have hft:=fun st=>qkg no 2 st
   apply qg []
   repeat' (first|apply And.intro|(intro h;try exact cDd)|exact⟨Tryz.call124⟩|refine cpe hft ?_|exact cSd|apply qd []|refine exr ?_|refine qh ?_)
  ·rw [if_neg h0]
   have hl0:(p.lines.map fun x=>Sv x).length≠0:=by simp [h0]
   have hll:=hB.lines
   have hsm:=hB.small
   have hml:(p.lines.map fun x=>Sv x).length=p.lines.length:=by simp
   have hfc:=qob (n+1) { p with lines:=p.lines++[text] } (qon hB (by omega) ht)
   cases ended with
   |true=>
    rw [if_pos rfl]
    apply qg []
    repeat' (first|apply And.intro|(intro h;try exact cDd)|(exact absurd (by assumption:true=false) (by decide))|exact cSd|apply qd []|refine exr ?_|refine qh ?_)
    all_goals first|(simp [SV.evs,SV.ev];done)|(simp [SV.evs];omega)
   |false=>
    rw [if_neg (by decide)]
    apply qg []
    repeat' (first|apply And.intro|(intro h;try exact cDd)|(exact absurd (by assumption:false=true) (by decide))|exact⟨Tryz.call126⟩|(refine kl hfc ?_)|exact cSd|apply qd []|refine exr ?_|refine qh ?_)
    all_goals first|(simp [SV.evs,SV.ev];done)|(simp [SV.evs];omega)
 ·rw [if_neg hk3]
  by_cases hk1:kind=1
  ·rw [if_pos hk1]
   have hfc:=q0a n p hB (by omega)
   apply qg []
   repeat' (first|apply And.intro|(intro h;try exact cDd)|exact⟨Tryz.call69⟩|(refine kl hfc ?_)|exact cSd|apply qd []|refine exr ?_|refine qh ?_)
  ·rw [if_neg hk1]
   have hfc:=qob n p hB
   apply qg []
   repeat' (first|apply And.intro|(intro h;try exact cDd)|exact⟨Tryz.call126⟩|(refine kl hfc ?_)|exact cSd|apply qd []|refine exr ?_|refine qh ?_)
theorem q7z (n:Nat) (p:PSt) (no at':Int) (text:qe) (ended:Bool) (hB:PB n p) (hs:n+4<900000) (ht:text.length<1000000) (hok:(yr p no text ended).1=none):x4 E 68 [.bx 0 0,.ag [.i no,.i at',.s text,.b ended]] 5 (hpF (parH 1 p)) ⟨.a (.v .nilIface),x2 (parH 1 p),parH 5 (yr p no text ended).2++ym (parH 1 p),9⟩:=by
 refine qap [.bx 0 0,.ag [.i no,.i at',.s text,.b ended]] (parH 1 p) 5 (.a (.v .nilIface)) (parH 5 (yr p no text ended).2) 9 Tryz.func68 rfl rfl rfl rfl fun S F ρ=>?_
 have hfc:=qtg n p no at' text ended (qs text) hB (by omega) ht
 have hB1:=qh9 (no:=no) (text:=text) (ended:=ended) (kind:=qs text) hB (by omega) ht
 have hkr:=qqa text
 have hkd:=fun st=>qlq text st (by omega)
 unfold yr at hok ⊢
 generalize ki p no text ended (qs text)=fq at hfc hB1 hok ⊢
 obtain⟨fe,q⟩:=fq
 cases fe with
 |some e=>exact absurd hok (by simp)
 |none=>
  dsimp only at hB1 hfc hok ⊢
  have h1:=hB1.block
  have h2:=hB1.items
  have hmb:(q.block.map fun x=>Sv x).length=q.block.length:=by simp
  have hmi:(q.items.map xf).length=q.items.length:=by simp
  by_cases hk:qs text=5∨ended=false
  ·rw [if_pos hk] at hok
   exact absurd hok (by simp)
  ·rw [if_neg hk] at hok ⊢
   have hk5:qs text≠5:=fun h=>hk (.inl h)
   obtain rfl:ended=true:=by cases ended <;> simp_all
   by_cases hk1:qs text=1
   ·rw [if_pos hk1]
    apply qg []
    repeat' (first|apply And.intro|(intro h;try exact cDd)|exact⟨Tryz.call122⟩|refine cpe hkd ?_|exact⟨Tryz.call123⟩|(refine kl hfc ?_)|(exact absurd (by assumption:true=false) (by decide))|exact cSd|apply qd []|refine exr ?_|refine qh ?_)
    all_goals first|(simp [SV.evs,SV.ev];done)|(simp [SV.evs];omega)
   ·rw [if_neg hk1]
    by_cases hk4:qs text=4
    ·rw [if_pos hk4]
     have hbc:=q49 (n+2) q no at' text true hB1
     apply qg []
     repeat' (first|apply And.intro|(intro h;try exact cDd)|exact⟨Tryz.call122⟩|refine cpe hkd ?_|exact⟨Tryz.call123⟩|(refine kl hfc ?_)|exact⟨Tryz.call125⟩|(refine kl hbc ?_)|(exact absurd (by assumption:true=false) (by decide))|exact cSd|apply qd []|refine exr ?_|refine qh ?_)
     all_goals first|(simp [SV.evs,SV.ev,wr];done)|(simp [SV.evs,wr];omega)
    ·rw [if_neg hk4]
     apply qg []
     repeat' (first|apply And.intro|(intro h;try exact cDd)|exact⟨Tryz.call122⟩|refine cpe hkd ?_|exact⟨Tryz.call123⟩|(refine kl hfc ?_)|(exact absurd (by assumption:true=false) (by decide))|exact cSd|apply qd []|refine exr ?_|refine qh ?_)
     all_goals first|(simp [SV.evs,SV.ev];done)|(simp [SV.evs];omega)
theorem q70 (n:Nat) (p:PSt) (no at':Int) (text:qe) (ended:Bool) (hB:PB n p) (hs:n+4<900000) (ht:text.length<1000000) (a m:Int) (hok:(yr p no text ended).1=some (a,m)):x4 E 68 [.bx 0 0,.ag [.i no,.i at',.s text,.b ended]] 5 (hpF (parH 1 p)) ⟨.a (qgh a m),x2 (parH 1 p),parH 5 (ki p no text ended (qs text)).2++ym (parH 1 p),9⟩:=by
 refine qap [.bx 0 0,.ag [.i no,.i at',.s text,.b ended]] (parH 1 p) 5 (.a (qgh a m)) (parH 5 (ki p no text ended (qs text)).2) 9 Tryz.func68 rfl rfl rfl rfl fun S F ρ=>?_
 have hfc:=qtg n p no at' text ended (qs text) hB (by omega) ht
 have hB1:=qh9 (no:=no) (text:=text) (ended:=ended) (kind:=qs text) hB (by omega) ht
 have hkr:=qqa text
 have hkd:=fun st=>qlq text st (by omega)
 unfold yr at hok
 generalize ki p no text ended (qs text)=fq at hfc hB1 hok ⊢
 obtain⟨fe,q⟩:=fq
 cases fe with
 |some e=>
  dsimp only at hB1 hfc hok ⊢
  obtain rfl:e=(a,m):=by simpa using hok
  apply qg []
  repeat' (first|apply And.intro|(intro h;try exact cDd)|exact⟨Tryz.call122⟩|refine cpe hkd ?_|exact⟨Tryz.call123⟩|(refine kl hfc ?_)|exact cSd|apply qd []|refine exr ?_|refine qh ?_)
 |none=>
  dsimp only at hB1 hfc hok ⊢
  by_cases hk:qs text=5∨ended=false
  ·rw [if_pos hk] at hok
   obtain⟨rfl,rfl⟩:no=a∧2=m:=by simpa using hok
   have hft:=fun st=>qkg no 2 st
   cases ended with
   |true=>
    have hk5:qs text=5:=by simpa using hk
    apply qg []
    repeat' (first|apply And.intro|(intro h;try exact cDd)|exact⟨Tryz.call122⟩|refine cpe hkd ?_|exact⟨Tryz.call124⟩|refine cpe hft ?_|exact⟨Tryz.call123⟩|(refine kl hfc ?_)|(exact absurd (by assumption:true=false) (by decide))|exact cSd|apply qd []|refine exr ?_|refine qh ?_)
   |false=>
    apply qg []
    repeat' (first|apply And.intro|(intro h;try exact cDd)|exact⟨Tryz.call122⟩|refine cpe hkd ?_|exact⟨Tryz.call124⟩|refine cpe hft ?_|exact⟨Tryz.call123⟩|(refine kl hfc ?_)|(exact absurd (by assumption:false=true) (by decide))|exact cSd|apply qd []|refine exr ?_|refine qh ?_)
  ·rw [if_neg hk] at hok
   split at hok
   ·simp at hok
   ·split at hok
    ·simp at hok
    ·simp at hok
end Go.Proofs.YtneejjefekdgjaaGreatDoor
namespace Go.Pl
open Go Go.Proofs
def p0:PSt:=⟨[],0,false,[],[],[],0⟩
def runL:Nat→List (qe×Bool)→PSt→Option (Int×Int)×PSt
 | _,[],p=>endP p
 |k,(t,e)::r,p=>match (yr p k t e).1 with
  |some x=>(some x,p)
  |none=>runL (k+1) r (yr p k t e).2
def wx (text:qe):Option (Int×Int)×List zq:=match (runL 0 (vm text) p0).1 with
 |some e=>(some e,[])
 |none=>(none,(runL 0 (vm text) p0).2.items)
end Go.Pl
namespace Go.Proofs.YtneejjefekdgjaaGreatDoor
open Go Go.Av Go.RowKit Go.Proofs Go.Pl
theorem q30 (x:Option (Int×Int)):Pure (errP x):=by
 rcases x with _ | ⟨a,n⟩
 ·exact qy _
 ·exact qi1 a n
theorem q1l (f:Fld):qmj (fldA f):=fun x hx=>by
 simp only [AV.cells,List.mem_cons,List.not_mem_nil,or_false] at hx
 rcases hx with rfl|rfl <;> exact qy _
theorem qgz (fs:List Fld):Pure (kc fs):=qc9 fun x hx=>by
 obtain⟨f,_,rfl⟩:=List.mem_map.1 hx
 exact q1l f
theorem qf8 (x:zq):qmj (xf x):=fun y hy=>by
 simp only [AV.cells,List.mem_cons,List.not_mem_nil,or_false] at hy
 rcases hy with rfl|rfl|rfl
 ·exact qy _
 ·exact qy _
 ·exact qgz _
theorem qce (xs:List zq):Pure (x5 xs):=qc9 fun x hx=>by
 obtain⟨f,_,rfl⟩:=List.mem_map.1 hx
 exact qf8 f
theorem qcg {x y:AV} (hx:Pure x) (hy:Pure y):Pure (.tu [x,y]):=qd9 fun z hz=>by
 simp only [List.mem_cons,List.not_mem_nil,or_false] at hz
 rcases hz with rfl|rfl
 ·exact hx
 ·exact hy
def qfr (text:qe):AV:=.tu [x5 (wx text).2,errP (wx text).1]
theorem qy9 (text:qe):Pure (qfr text):=qcg (qce _) (q30 _)
theorem qni {S:List AObj} {o k:Nat} {x:AObj} (h:k≠o):(S.set o x)[k]? = S[k]?:=List.getElem?_set_ne (Ne.symm h)
theorem q13:PB 0 p0:=⟨by omega,by simp [p0],by simp [p0],by simp [p0],by simp [p0],by simp [p0],by simp [p0],by simp [p0],by simp [p0]⟩
theorem q8k (text:qe) (st:List AObj) (hl:text.length≤60000):qp E 23 [Sv text] st fun r st'=>r=qfr text∧st'=st:=by
 refine z0 [.s text] (qy9 text) Tryz.func23 rfl rfl (fun _=>rfl) rfl fun S0=>?_
 apply qg [13]
 repeat' (first|apply And.intro|(intro h;try exact cDd)|exact⟨Tryz.call67⟩|(refine Exists.intro _ ⟨q2k _,?_⟩)|exact cSd|apply qd [13]|refine exr ?_|refine qh ?_)
 refine qr5 (X:=PSt×Option (Int×Int)) text 4 5 [0,1,2,3,4] (fun (p,e)=>⟨[(2,.bx 0 0),(3,.bx 1 0),(4,.bx 2 0),(15,.fn (.func 121) [] [.bx 4 0])],
   [(0,some (.cells 47 [.a jw])),(1,some (.cells 24 [.a (errP e)])),(2,some (.cells 135 [.bx 3 0])),(3,some (.cells 140 [.tp 5,.i p.frm,.b p.full,.tp 6,.tp 7,.tp 8,.i p.records])),(4,some (.cells 9 [.s text])),
    (5,some (.tip 1 9 (p.lines.map fun x=>Sv x))),(6,some (.tip 3 52 (p.items.map xf))),(7,some (.tip 1 9 (p.block.map fun x=>Sv x))),(8,some (.tip 2 111 (p.fields.map fldA)))],9⟩) _
  (fun k rest (p,e)=>e=none∧PB (4 * k) p∧k+rest.length≤text.length∧runL 0 (vm text) p0=runL k (vm rest) p)
  (fun c (p,e)=>∃ a m,c = .ret∧e=some (a,m)∧(runL 0 (vm text) p0).1=some (a,m)) (p0,none) ⟨rfl,q13,by omega,rfl⟩ ?_ id (by omega) (fun _=>rfl) rfl (fun _=>rfl) (fun _=>rfl) rfl ?_ ?_ ?_
 ·skip
  repeat' (first|apply And.intro|(intro h;try exact cDd)|exact cSd|apply qd []|refine exr ?_|refine qh ?_)
 ·rintro k rest ⟨p,e⟩ ⟨rfl,hB,hkl,hrun⟩ hne hle
  have hcons:=qbb hne
  have hu:=qct 10 rest
  have hpl:=qcf 10 rest
  have hr0:0<rest.length:=List.length_pos_iff.2 hne
  rw [hcons] at hrun
  simp only [runL] at hrun
  unfold qqb
  generalize hen:decide (10∈rest)=en at hrun
  generalize upto 10 rest=up at hu hrun ⊢
  have hB2:=qow (no:=k) (text:=up) (ended:=en) hB (by omega) (by omega)
  cases hah:(yr p k up en).1 with
  |some e=>
   obtain⟨a,m⟩:=e
   rw [hah] at hrun
   simp only at hrun
   have htk:=q70 (4 * k) p k ((text.length:Int) - rest.length) up en hB (by omega) (by omega) a m hah
   refine RA.mk fun S F ρ rd=>?_
   apply qg []
   repeat' (first|apply And.intro|(intro h;try exact cDd)|(refine RB.mk fun S rd=>?_;apply qg [])|exact⟨Tryz.call68⟩|(refine kl htk ?_)|(refine Exists.intro ((ki p k up en (qs up)).2,some (a,m)) ⟨⟨a,m,rfl,rfl,by rw [hrun]⟩,?_⟩)|exact cSd|apply qd []|refine exr ?_|refine qh ?_)
   all_goals (rw [← hen];rfl)
  |none=>
   rw [hah] at hrun
   simp only at hrun
   have htk:=q7z (4 * k) p k ((text.length:Int) - rest.length) up en hB (by omega) (by omega) hah
   refine RA.mk fun S F ρ rd=>?_
   apply qg []
   repeat' (first|apply And.intro|(intro h;try exact cDd)|(refine RB.mk fun S rd=>?_;apply qg [])|exact⟨Tryz.call68⟩|(refine kl htk ?_)|(refine Exists.intro ((yr p k up en).2,none) ⟨⟨rfl,hB2,by omega,hrun⟩,?_⟩)|exact cSd|apply qd []|refine exr ?_|refine qh ?_)
   all_goals (rw [← hen];rfl)
 ·rintro k ⟨p,e⟩ ⟨rfl,hB,hkl,hrun⟩
  have hre:runL k (vm []) p=endP p:=by rw [qai];rfl
  rw [hre] at hrun
  have hpe:=q0a (4 * k) p hB (by omega)
  generalize endP p=fq at hrun hpe
  obtain⟨fe,q⟩:=fq
  cases fe with
  |some e=>
   have hpf:qfr text = .tu [x5 [],errP (some e)]:=by unfold qfr wx;rw [hrun]
   rw [hpf]
   obtain⟨a,m⟩:=e
   repeat' (first|apply And.intro|(intro h;try exact cDd)|exact⟨Tryz.call69⟩|(refine kl hpe ?_)|exact cSd|apply qd []|refine exr ?_|refine qh ?_)
  |none=>
   have hpf:qfr text = .tu [x5 q.items,errP none]:=by unfold qfr wx;rw [hrun]
   rw [hpf]
   dsimp only at hpe
   repeat' (first|apply And.intro|(intro h;try exact cDd)|exact⟨Tryz.call69⟩|(refine kl hpe ?_)|exact cSd|apply qd []|refine exr ?_|refine qh ?_)
 ·rintro c ⟨p,e⟩ ⟨a,m,rfl,rfl,hre⟩
  have hpf:qfr text = .tu [x5 [],errP (some (a,m))]:=by unfold qfr wx;rw [hre]
  rw [hpf]
  repeat' (first|apply And.intro|(intro h;try exact cDd)|exact cSd|apply qd []|refine exr ?_|refine qh ?_)
end Go.Proofs.YtneejjefekdgjaaGreatDoor
namespace Go.Proofs.YtneejjefekdgjaaGreatDoor
open Go Go.RowKit Go.Extern.Stop Go.Stop Go.Extern Go.Proofs
theorem asT.valueOf27 (t:Addr) (w:World):(ReflectliteValue.unpack (.iface 305 (.pointer (some t)))).run Tryz.prog w
  = .ok (.agg #[.pointer (some ⟨9,305,none⟩),.pointer (some ⟨w.heap.size,0,none⟩),.int .u64 150]) (w.alloc (.cells #[.pointer (some t)] 305)):=by kernel_rfl
theorem asT.type27 (a : Addr) (w : World) : (ReflectliteValue.methodAny (ReflectliteValue.valueError "reflectlite.Value.Type" 0) (fun t _ _ _ => ReflectliteType.toType t) #[.agg #[.pointer (some ⟨9, 305, none⟩), .pointer (some a), .int .u64 150]]).run Tryz.prog w
  = .ok (.iface 381 (.agg #[.pointer (some ⟨9,305,none⟩)])) w:=by kernel_rfl
theorem asT.methodKind (h : Value) (w : World) : (Go.method 536 381 (.agg #[h]) "Kind").run Tryz.prog w = .ok (354, h) w := by kernel_rfl
theorem asT.kind27 (w:World):((ReflectliteType.abiMethod fun t=>(fun a:Nat=>Value.int IntKind.u8 (a:Int)) <$> Rtype.kind t) #[.pointer (some ⟨9,305,none⟩)]).run Tryz.prog w = .ok (.int .u8 22) w:=by kernel_rfl
theorem asT.kind25 (w:World):((ReflectliteType.abiMethod fun t=>(fun a:Nat=>Value.int IntKind.u8 (a:Int)) <$> Rtype.kind t) #[.pointer (some ⟨9,121,none⟩)]).run Tryz.prog w = .ok (.int .u8 22) w:=by kernel_rfl
theorem rlm (z:Sem Value) (f:TypeId→Addr→Nat→Nat→Sem Value) (v:Value) :
  ReflectliteValue.method z f #[v]=(do match ← ReflectliteValue.parts v with|none=>z|some (t,a,fl)=>f t a fl (fl % 32)):=rfl
theorem asT.parts27 (a:Addr) (w:World):(ReflectliteValue.parts (.agg #[.pointer (some ⟨9,305,none⟩),.pointer (some a),.int .u64 150])).run Tryz.prog w = .ok (some (305,a,150)) w:=by kernel_rfl
theorem asT.isNil27 (a p:Addr) (W:World) (ha:W.cell? a=some (.pointer (some p))) :
  (ReflectliteValue.method (ReflectliteValue.valueError "reflectlite.Value.IsNil" 0) ReflectliteValue.isNil #[.agg #[.pointer (some ⟨9, 305, none⟩), .pointer (some a), .int .u64 150]]).run Tryz.prog W = .ok (.bool false) W := by
 rw [rlm]
 simp only [Sem.run_bind,asT.parts27,Result.andThen]
 simp [ReflectliteValue.isNil,loadVar,isAgg,underlying,Tryz.underlying305,ha,Result.andThen]
theorem asT.methodElem (h : Value) (w : World) : (Go.method 536 381 (.agg #[h]) "Elem").run Tryz.prog w = .ok (372, .agg #[h]) w := by kernel_rfl
theorem asT.methodImplements (h : Value) (w : World) : (Go.method 536 381 (.agg #[h]) "Implements").run Tryz.prog w = .ok (373, .agg #[h]) w := by kernel_rfl
theorem asT.methodAssignableTo (h : Value) (w : World) : (Go.method 536 381 (.agg #[h]) "AssignableTo").run Tryz.prog w = .ok (370, .agg #[h]) w := by kernel_rfl
theorem asT.elem27 (w:World):(ReflectliteType.method ReflectliteType.elem #[.agg #[.pointer (some ⟨9,305,none⟩)]]).run Tryz.prog w = .ok (.iface 381 (.agg #[.pointer (some ⟨9,121,none⟩)])) w:=by kernel_rfl
theorem asT.implements25 (w : World) : (ReflectliteType.relation "Implements" ReflectliteType.implements_ #[.agg #[.pointer (some ⟨9, 121, none⟩)], .iface 381 (.agg #[.pointer (some ⟨9, 24, none⟩)])]).run Tryz.prog w = .ok (.bool true) w := by kernel_rfl
theorem asT.typeOf25 (v:Value) (w:World):(ReflectliteType.typeOf #[.iface 121 v]).run Tryz.prog w = .ok (.iface 381 (.agg #[.pointer (some ⟨9,121,none⟩)])) w:=by kernel_rfl
theorem asT.assignable25 (w : World) : (ReflectliteType.relation "AssignableTo" ReflectliteType.assignableTo #[.agg #[.pointer (some ⟨9, 121, none⟩)], .iface 381 (.agg #[.pointer (some ⟨9, 121, none⟩)])]).run Tryz.prog w = .ok (.bool true) w := by kernel_rfl
theorem asT.valueOf25 (e:Addr) (w:World):(ReflectliteValue.unpack (.iface 121 (.pointer (some e)))).run Tryz.prog w
  = .ok (.agg #[.pointer (some ⟨9,121,none⟩),.pointer (some ⟨w.heap.size,0,none⟩),.int .u64 150]) (w.alloc (.cells #[.pointer (some e)] 121)):=by kernel_rfl
theorem asT.elemOf27 (w:World):(Rtype.elem? 305).run Tryz.prog w = .ok (some 121) w:=by kernel_rfl
theorem asT.mk25 (p:Addr) (w:World):(ReflectliteValue.mk 121 p ReflectliteValue.flagAddr).run Tryz.prog w = .ok (.agg #[.pointer (some ⟨9,121,none⟩),.pointer (some p),.int .u64 406]) w:=by kernel_rfl
theorem asT.elemV27 (a p:Addr) (W:World) (ha:W.cell? a=some (.pointer (some p))) :
  (ReflectliteValue.method (ReflectliteValue.valueError "reflectlite.Value.Elem" 0) ReflectliteValue.elem #[.agg #[.pointer (some ⟨9, 305, none⟩), .pointer (some a), .int .u64 150]]).run Tryz.prog W
   = .ok (.agg #[.pointer (some ⟨9,121,none⟩),.pointer (some p),.int .u64 406]) W:=by
 rw [rlm]
 simp only [Sem.run_bind,asT.parts27,Result.andThen]
 simp [ReflectliteValue.elem,loadVar,isAgg,underlying,Tryz.underlying305,ha,Result.andThen,asT.elemOf27,asT.mk25]
theorem rls (v x:Value):ReflectliteValue.set #[v,x]=(do
  let (some (dst,a,fl),some (src,b,_)):=(← ReflectliteValue.parts v,← ReflectliteValue.parts x)
   | unsupported (.noEntry "extern/(internal/reflectlite.Value).Set.zeroValue")
  if fl / ReflectliteValue.flagAddr % 2 == 0 then unsupported (.noEntry "extern/(internal/reflectlite.Value).Set.unaddressable")
  let val ← loadVar src b
  if ← Rtype.directlyAssignable dst src then storeVar dst a val
  else if ← Rtype.implements dst src then
   if (← Rtype.kind src) == 20 then
    match val with
    | .nilIface => unsupported (.noEntry "extern/reflectlite: a nil value of one interface type handed on as a value of another")
    | _=>storeVar dst a val
   else storeVar dst a (.iface src val)
  else panicString ("reflectlite.Set: value of type " ++ (← Rtype.spelt src) ++ " is not assignable to type " ++ (← Rtype.spelt dst))
  pure (.tuple #[])):=rfl
theorem asT.parts25a (a:Addr) (w:World):(ReflectliteValue.parts (.agg #[.pointer (some ⟨9,121,none⟩),.pointer (some a),.int .u64 406])).run Tryz.prog w = .ok (some (121,a,406)) w:=by kernel_rfl
theorem asT.parts25 (a:Addr) (w:World):(ReflectliteValue.parts (.agg #[.pointer (some ⟨9,121,none⟩),.pointer (some a),.int .u64 150])).run Tryz.prog w = .ok (some (121,a,150)) w:=by kernel_rfl
theorem asT.direct25 (w:World):(Rtype.directlyAssignable 121 121).run Tryz.prog w = .ok true w:=by kernel_rfl
theorem asT.set25 (ta b e:Addr) (old:Value) (W:World) (hb:W.cell? b=some (.pointer (some e))) (ht:W.cell? ta=some old) (hf:W.frozen? ta=false) :
  (ReflectliteValue.set #[.agg #[.pointer (some ⟨9,121,none⟩),.pointer (some ta),.int .u64 406],.agg #[.pointer (some ⟨9,121,none⟩),.pointer (some b),.int .u64 150]]).run Tryz.prog W
   = .ok (.tuple #[]) (W.setCell ta (.pointer (some e))):=by
 rw [rls]
 simp only [Sem.run_bind,asT.parts25a,asT.parts25,Result.andThen]
 simp [ReflectliteValue.flagAddr,loadVar,isAgg,underlying,Tryz.underlying121,hb,Result.andThen,asT.direct25,storeVar,Value.cells,storeCells,Addr.add]
 rw [run_store Tryz.prog W ta _ _ (by rfl)]
 simp [ht,hf]
set_option maxHeartbeats 4000000 in
theorem zbm (e t:Addr) (old:Value) (w:World) (hg:w.cell? ⟨3,0,none⟩=some (.iface 381 (.agg #[.pointer (some ⟨9,24,none⟩)]))) (ht0:w.cell? t=some old) (hf0:w.frozen? t=false) :
  Calls Tryz.prog 232 #[.iface 121 (.pointer (some e)),.iface 305 (.pointer (some t))] w fun ev w'=>ev = .returned (.bool true)∧w'=((((w.alloc (.cells #[.pointer (some t)] 305)).alloc (.cells #[.pointer (some ⟨9,305,none⟩),.pointer (some ⟨w.heap.size,0,none⟩),.int .u64 150] 347)).alloc (.cells #[.pointer (some ⟨9,305,none⟩),.pointer (some ⟨w.heap.size,0,none⟩),.int .u64 150] 347)).alloc (.cells #[.pointer (some e)] 121)).setCell t (.pointer (some e)):=by
 have h6:=@run_callFunc_extern Tryz.prog 289 _ (fun args=>ReflectliteValue.unpack (args.getD 0 (.tuple #[]))) Tryz.func289 (by kernel_rfl) (by kernel_rfl) (by kernel_rfl) (by kernel_rfl)
 have h7 := @run_callFunc_extern Tryz.prog 290 _ (ReflectliteValue.methodAny (ReflectliteValue.valueError "reflectlite.Value.Type" 0) (fun t _ _ _ => ReflectliteType.toType t)) Tryz.func290 (by kernel_rfl) (by kernel_rfl) (by kernel_rfl) (by kernel_rfl)
 have h8 := @run_callFunc_extern Tryz.prog 291 _ (ReflectliteValue.method (ReflectliteValue.valueError "reflectlite.Value.IsNil" 0) ReflectliteValue.isNil) Tryz.func291 (by kernel_rfl) (by kernel_rfl) (by kernel_rfl) (by kernel_rfl)
 have h27:=@run_callFunc_extern Tryz.prog 354 _ (ReflectliteType.abiMethod fun t=>do pure (.int .u8 (← Rtype.kind t))) Tryz.func354 (by kernel_rfl) (by kernel_rfl) (by kernel_rfl) (by kernel_rfl)
 have h37:=@run_callFunc_extern Tryz.prog 372 _ (ReflectliteType.method ReflectliteType.elem) Tryz.func372 (by kernel_rfl) (by kernel_rfl) (by kernel_rfl) (by kernel_rfl)
 have h38 := @run_callFunc_extern Tryz.prog 373 _ (ReflectliteType.relation "Implements" ReflectliteType.implements_) Tryz.func373 (by kernel_rfl) (by kernel_rfl) (by kernel_rfl) (by kernel_rfl)
 have h10:=@run_callFunc_extern Tryz.prog 318 _ ReflectliteType.typeOf Tryz.func318 (by kernel_rfl) (by kernel_rfl) (by kernel_rfl) (by kernel_rfl)
 have h35 := @run_callFunc_extern Tryz.prog 370 _ (ReflectliteType.relation "AssignableTo" ReflectliteType.assignableTo) Tryz.func370 (by kernel_rfl) (by kernel_rfl) (by kernel_rfl) (by kernel_rfl)
 have h11 := @run_callFunc_extern Tryz.prog 319 _ (ReflectliteValue.method (ReflectliteValue.valueError "reflectlite.Value.Elem" 0) ReflectliteValue.elem) Tryz.func319 (by kernel_rfl) (by kernel_rfl) (by kernel_rfl) (by kernel_rfl)
 have h12:=@run_callFunc_extern Tryz.prog 320 _ ReflectliteValue.set Tryz.func320 (by kernel_rfl) (by kernel_rfl) (by kernel_rfl) (by kernel_rfl)
 have tO:=asT.typeOf25
 have mA:=asT.methodAssignableTo
 have a25:=asT.assignable25
 have v25:=asT.valueOf25
 have f6:=asT.valueOf27
 have f7:=asT.type27
 have mK:=asT.methodKind
 have mE:=asT.methodElem
 have mI:=asT.methodImplements
 have k27:=asT.kind27
 have k25:=asT.kind25
 have e27:=asT.elem27
 have i25:=asT.implements25
 have n8:=asT.isNil27 ⟨w.heap.size,0,none⟩ t ((w.alloc (.cells #[.pointer (some t)] 305)).alloc (.cells #[.pointer (some ⟨9,305,none⟩),.pointer (some ⟨w.heap.size,0,none⟩),.int .u64 150] 347)) (by simp)
 have hlt:3<w.heap.size:=by
  rcases Nat.lt_or_ge 3 w.heap.size with h|h
  ·exact h
  ·simp [World.cell?,Array.getElem?_eq_none h] at hg
 have hg2:((w.alloc (.cells #[.pointer (some t)] 305)).alloc (.cells #[.pointer (some ⟨9,305,none⟩),.pointer (some ⟨w.heap.size,0,none⟩),.int .u64 150] 347)).cell? ⟨3,0,none⟩=some (.iface 381 (.agg #[.pointer (some ⟨9,24,none⟩)])):=by
  rw [World.cell?_alloc_lt _ _ ⟨3,0,none⟩ (by first|(simp;done)|(simp;omega)),World.cell?_alloc_lt _ _ ⟨3,0,none⟩ hlt];exact hg
 have htl:t.block<w.heap.size:=by
  rcases Nat.lt_or_ge t.block w.heap.size with h|h
  ·exact h
  ·simp [World.cell?,Array.getElem?_eq_none h] at ht0
 have el:=asT.elemV27 ⟨w.heap.size,0,none⟩ t (((w.alloc (.cells #[.pointer (some t)] 305)).alloc (.cells #[.pointer (some ⟨9,305,none⟩),.pointer (some ⟨w.heap.size,0,none⟩),.int .u64 150] 347)).alloc (.cells #[.pointer (some ⟨9,305,none⟩),.pointer (some ⟨w.heap.size,0,none⟩),.int .u64 150] 347)) (by rw [World.cell?_alloc_lt _ _ ⟨w.heap.size,0,none⟩ (by first|(simp;done)|(simp;omega))];simp)
 have st:=asT.set25 t ⟨w.heap.size+1+1+1,0,none⟩ e old ((((w.alloc (.cells #[.pointer (some t)] 305)).alloc (.cells #[.pointer (some ⟨9,305,none⟩),.pointer (some ⟨w.heap.size,0,none⟩),.int .u64 150] 347)).alloc (.cells #[.pointer (some ⟨9,305,none⟩),.pointer (some ⟨w.heap.size,0,none⟩),.int .u64 150] 347)).alloc (.cells #[.pointer (some e)] 121))
  (by rw [World.cell?_alloc_at _ _ _ _ (by simp)];rfl)
  (by rw [World.cell?_alloc_lt _ _ t (by first|(simp;done)|(simp;omega)),World.cell?_alloc_lt _ _ t (by first|(simp;done)|(simp;omega)),World.cell?_alloc_lt _ _ t (by first|(simp;done)|(simp;omega)),World.cell?_alloc_lt _ _ t htl];exact ht0)
  (by rw [World.frozen?_alloc_old _ _ t (by first|(simp;done)|(simp;omega)),World.frozen?_alloc_old _ _ t (by first|(simp;done)|(simp;omega)),World.frozen?_alloc_old _ _ t (by first|(simp;done)|(simp;omega)),World.frozen?_alloc_old _ _ t (Nat.ne_of_lt htl)];exact hf0)
 go_enter Tryz.func232,Tryz.ntmps232
 go_wp2
 refine wp_loop_rounds 1 ?_
 rw [rounds_succ]
 go_wp2
 go_ret
 exact⟨rfl,rfl⟩
end Go.Proofs.YtneejjefekdgjaaGreatDoor
