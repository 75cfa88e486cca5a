/- Contracts and plain facts that the closing text leans on (part 5). No condition of their own beyond those that each states. -/
import Derived.Test.YtejoahlpbckbeaaGreatDoorK4
import Derived.Laws.StructEq
import Derived.Laws.MakeOwn
import Derived.LaidEql
import Derived.Stop.Asserts
import Derived.RowKitTokens
import Derived.Lib.IfaceEq
set_option maxRecDepth 100000
set_option linter.unusedVariables false
set_option linter.unusedSimpArgs false
namespace Go.Proofs.YtejoahlpbckbeaaGreatDoor
open Go Go.Av Go.RowKit Go.Proofs Go.Pl
def y9 (n0:Nat) (ks:List Nat) (sl:List (Nat×SV)) (hp:List (Nat×Option SR)) (nx:Nat):Bool:=
 sl.all (fun q=>q.2.all fun k=>Nat.blt k n0) && hp.all (fun q=>match q.2 with
  |some (.cells _ _)=>memN ks q.1
  |some (.own _ _ _)=>false
  |some (.obj _)=>memN ks q.1
  |some (.rows _ _ _)=>false
  | _=>true) && Nat.ble n0 nx
def ksIn (n0:Nat) (ks:List Nat) (hp:List (Nat×Option SR)):Bool:=ks.all fun k=>Nat.blt k n0 && match lkS hp k with
 |some (some (.cells _ _))=>true
 |some (some (.obj _))=>true
 | _=>false
structure RB (E:Env) (N:Nat) (F:Nat→Prop) (ρ : Nat→AV) (n0:Nat) (body:Code) (Q:Exit→Conf→Prop) (C:Conf):Prop where
 run:∀ S rd,Sm E rd N ⟨S,F,ρ,n0,False⟩ body Q C
structure RA (E:Env) (N:Nat) (n0:Nat) (asg:Code) (K:(Nat→Prop)→(Nat→AV)→Conf→Prop) (C:Conf):Prop where
 run:∀ S F ρ rd,Sm E rd N ⟨S,F,ρ,n0,True⟩ asg (fun e C1=>match e with
  | .normal=>∀ F',K F' ρ C1
  | _=>False) C
def qy0 (Q:Exit→Conf→Prop):Code→Conf→Prop
 | .ret=>Q .ret
 | .exit id=>Q (.exit id)
 | _=>fun _=>False
def qnv (k:Nat) (text rest:List UInt8):SV:=.ag [.i k,.i ((text.length:Int) - rest.length),.s (upto 10 rest),.p (10∈rest) inferInstance]
theorem q48 (k:Nat) (text rest:List UInt8) (ρ : Nat→AV):(qnv k text rest).ev ρ = qsf k text rest:=rfl
@[reducible] def rndQ {X : Type} (n0 : Nat) (P : X → Prop) (D : Code → X → Prop) (C : X → Conf) (e : Exit) (C2 : Conf) : Prop := match e with
 | .normal=>∃ x,P x∧EntA n0 C2 (C x)
 | .ret=>∃ x,D .ret x∧EntA n0 C2 (C x)
 | .exit id=>∃ x,D (.exit id) x∧EntA n0 C2 (C x)
 | _=>False
section
variable {N : Nat} {B : Bs} {C : Conf} {Q : Exit → Conf → Prop} {rd : Option Nat}
structure RInv (B:Bs) (n0 n:Nat) (ks:List Nat) (ρ1 t:Nat→AV) (df:List Nat) (C:Conf) (S:List AObj):Prop where
 ex:∃ ρ,(∀ k,k<n0→ρ k = ρ1 k)∧SatR B.S0 B.F C ρ t S∧(∀ d∈df,S[d]? = some .dfr)∧n≤S.length
theorem qtb {n0 n:Nat} {ks:List Nat} {ρ1 ρ : Nat→AV} {hp:List (Nat×Option SR)} {sl:List (Nat×SV)} {nx k:Nat} {T:TypeId} {cs:List SV} (hks:∀ k∈ks,k<n0∧∃ o,qy (ρ1 k)=some o∧o<n) (hr:y9 n0 ks sl hp nx=true) (hρ : ∀ k,k<n0→ρ k = ρ1 k) (hk:hpF hp k=some (.cells T cs)):k<n0∧∃ o,qy (ρ k)=some o∧o<n:=by
 have h1:=vu hk
 simp only [y9,Bool.and_eq_true] at hr
 have:=List.all_eq_true.1 hr.1.2 _ (jv h1)
 simp only at this
 obtain⟨g1,g2⟩:=hks k (ql0 this)
 refine⟨g1,?_⟩
 rw [hρ k g1]
 exact g2
theorem q2x {n0:Nat} {ks:List Nat} {sl:List (Nat×SV)} {hp:List (Nat×Option SR)} {nx k sz:Nat} {T:TypeId} {xs:List AV} (hr:y9 n0 ks sl hp nx=true) (hk:hpF hp k=some (.own sz T xs)):False:=by
 have h1:=vu hk
 simp only [y9,Bool.and_eq_true] at hr
 have:=List.all_eq_true.1 hr.1.2 _ (jv h1)
 simp at this
theorem q2p {n0 n:Nat} {ks:List Nat} {ρ1 ρ : Nat→AV} {hp:List (Nat×Option SR)} {sl:List (Nat×SV)} {nx k:Nat} {P:AObj→AV→Prop} (hks:∀ k∈ks,k<n0∧∃ o,qy (ρ1 k)=some o∧o<n) (hr:y9 n0 ks sl hp nx=true) (hρ : ∀ k,k<n0→ρ k = ρ1 k) (hk:hpF hp k=some (.obj P)):k<n0∧∃ o,qy (ρ k)=some o∧o<n:=by
 have h1:=vu hk
 simp only [y9,Bool.and_eq_true] at hr
 have:=List.all_eq_true.1 hr.1.2 _ (jv h1)
 simp only at this
 obtain⟨g1,g2⟩:=hks k (ql0 this)
 refine⟨g1,?_⟩
 rw [hρ k g1]
 exact g2
theorem qx5 {n0:Nat} {ks:List Nat} {sl:List (Nat×SV)} {hp:List (Nat×Option SR)} {nx k:Nat} {T2:TypeId} {ys2:List AV} {cs2:List SV} (hr:y9 n0 ks sl hp nx=true) (hk:hpF hp k=some (.rows T2 ys2 cs2)):False:=by
 have h1:=vu hk
 simp only [y9,Bool.and_eq_true] at hr
 have:=List.all_eq_true.1 hr.1.2 _ (jv h1)
 simp at this
theorem RInv.ext {n0 n:Nat} {ks:List Nat} {ρ1 t:Nat→AV} {df:List Nat} {C:Conf} {S S':List AObj} (h:RInv B n0 n ks ρ1 t df C S) (hks:∀ k∈ks,k<n0∧∃ o,qy (ρ1 k)=some o∧o<n) (hr:y9 n0 ks C.sl C.hp C.nx=true) (hB:B.S0.length≤n) (hdn:∀ d∈df,d<n) (hE:Ext n S S'):RInv B n0 n ks ρ1 t df C S':=by
 obtain⟨ρ,hρ,hR,hd,hn⟩:=h.ex
 refine⟨ρ,hρ,⟨hR.sl,⟨fun k r hk=>?_,hR.hp.sep⟩,hR.own,fun j hj hF=>?_,Nat.le_trans hR.len hE.len,hR.wsl,hR.whp⟩,fun d hdd=>?_,Nat.le_trans hn hE.len⟩
 ·refine SR.ok_of (f:=fun _=>true) (SR.all_mono (fun _ _=>rfl) r (hR.whp k r hk).2) (fun _ _=>rfl) (hR.hp.ok k r hk) fun o ho=>?_
  rcases SR.ok_ct (hR.hp.ok k r hk) ho with⟨T,cs,v,h1,T',cs',rfl⟩ | ⟨m,sz,T,h1⟩ | ⟨sz,T,xs,rfl⟩ | ⟨P1,rfl⟩ | ⟨T2,ys2,cs2,rfl⟩
  rotate_left 2
  ·exact (q2x hr hk).elim
  ·obtain⟨_,o',h2,h3⟩:=q2p hks hr hρ hk
   rw [h2] at ho
   simp only [Option.some.injEq] at ho
   subst ho
   exact hE.low _ h3
  ·exact (qx5 hr hk).elim
  ·obtain⟨_,o',h2,h3⟩:=qtb hks hr hρ hk
   rw [h2] at ho
   simp only [Option.some.injEq] at ho
   subst ho
   exact hE.low _ h3
  ·exact hE.tips _ _ _ _ h1
 ·rw [hE.low j (by omega)]
  exact hR.low j hj hF
 ·rw [hE.low d (hdn d hdd)]
  exact hd d hdd
def evY {ι : Type} (Y : ι→Option (SV×ι)) (i : ι):Option (AV×ι):=match Y i with
 |some (v,j)=>some (v.ev fun _=>zv,j)
 |none=>none
theorem qle {X:Type} {f:Operand} {p:Tmp} {asg body:Code} {g:FuncId} {T:TypeId} {cs:List AV} {ι : Type} {Y : ι→Option (SV×ι)} {i0 : ι} (hit:ItC g T cs (evY Y) i0) (hrun:∀ vs w,(callFunc g vs).run E.P w = .ok (.enter g vs) w) (hY:∀ i v j,Y i=some (v,j)→v.all (fun _=>false)=true) (kb n0:Nat) (cv:List SV) (hcv:∀ ρ,SV.evs ρ cv=cs) (ks:List Nat) (I:X→Conf) (sl0:List (Nat×SV)) (P : ι→X→Prop) (D:Code→X→Prop) (x0:X) (h0:P i0 x0)
  (he:EntA B.n0 C (I x0)) (hz:¬ B.dz) (hsl:∀ x,(I x).sl=sl0)
  (hf:sval N sl0 f=some (.fn (.func g) [] [.bx kb 0]))
  (hkb:∀ x,lkS (I x).hp kb=some (some (.cells T cv)))
  (hr:∀ x,y9 n0 ks (I x).sl (I x).hp (I x).nx=true) (h0r:(ksIn n0 ks (I x0).hp && Nat.ble B.n0 n0)=true)
  (hb:∀ i x v j,P i x→Y i=some (v,j)→RA E N n0 asg (fun F ρ C1=>RB E N F ρ n0 body (rndQ n0 (P j) D I) C1) ⟨(p,v)::(I x).sl,(I x).hp,(I x).nx⟩)
  (hn:∀ i x,Y i=none→P i x→Q .normal (I x)) (hd:∀ c x,D c x→qy0 Q c (I x)):Sm E none N B (.rangeFunc f #[p] asg body) Q C:=⟨fun s hs=>by
 obtain⟨ts,S0,df⟩:=s
 obtain⟨ρ0,hF0,hR0⟩:=hs
 simp only at hF0 hR0
 obtain⟨σ,hrg,he⟩:=he.ent
 have hF1:=hF0.ren (C':=I x0) hrg
 obtain⟨t,hw,hR1⟩:=he.sat hR0
 clear hF0 hR0 he hrg
 generalize renR σ ρ0 = ρ1 at hF1 hR1
 refine q1c hw ?_
 simp only [Bool.and_eq_true] at h0r
 have hBn:=Nat.le_of_ble_eq_true h0r.2
 have hB:=hR1.len
 have hks:∀ k∈ks,k<n0∧∃ o,qy (ρ1 k)=some o∧o<S0.length:=fun k hk=>by
  have:=List.all_eq_true.1 h0r.1 k hk
  simp only [Bool.and_eq_true] at this
  refine⟨ju this.1,?_⟩
  have h2:=this.2
  split at h2
  ·rename_i T cs hl
   have hk2:hpF (I x0).hp k=some (.cells T cs):=by unfold hpF;rw [hl]
   obtain⟨o,v,h1,h3,rfl⟩:=hR1.hp.ok k _ hk2
   exact⟨o,by rw [h1];rfl,lt_of_getElem? h3⟩
  ·rename_i P hl
   have hk2:hpF (I x0).hp k=some (.obj P):=by unfold hpF;rw [hl]
   obtain⟨o,x,h1,h3,_⟩:=hR1.hp.ok k _ hk2
   exact⟨o,h1,lt_of_getElem? h3⟩
  ·simp at h2
 have hdn:∀ d∈df,d<S0.length:=fun d hd=>lt_of_getElem? (hF1.dm d hd).1
 have hi0:RInv B n0 S0.length ks ρ1 t df (I x0) S0:=⟨ρ1,fun _ _=>rfl,hR1,fun d hd=>(hF1.dm d hd).1,Nat.le_refl _⟩
 have hnm:∀ x,(sl0.all fun q=>q.2.all fun k=>Nat.blt k n0)=true:=fun x=>by
  have:=hr x
  simp only [y9,Bool.and_eq_true,hsl] at this
  exact this.1.1
 have hnm:=hnm x0
 have slot:∀ {ρ : Nat→AV},(∀ k,k<n0→ρ k = ρ1 k)→SlOk ρ t sl0:=fun {ρ} hρ d v hd=>by
  rw [hR1.sl d v (by rw [hsl];exact hd)]
  exact (yl (fun k hk=>hρ k (ju hk)) v (List.all_eq_true.1 hnm _ (jv hd))).symm
 have hnx:∀ x,n0≤(I x).nx:=fun x=>by
  have:=hr x
  simp only [y9,Bool.and_eq_true] at this
  exact Nat.le_of_ble_eq_true this.2
 have hkb1:kb<n0∧∃ o,ρ1 kb = .bx o 0 0∧o<S0.length:=by
  have h1:=hr x0
  simp only [y9,Bool.and_eq_true] at h1
  have:=List.all_eq_true.1 h1.1.2 _ (jv (hkb x0))
  have hk2:hpF (I x0).hp kb=some (.cells T cv):=by unfold hpF;rw [hkb x0]
  obtain⟨o,v,h1,h3,rfl⟩:=hR1.hp.ok kb _ hk2
  exact⟨(hks kb (ql0 this)).1,o,h1,lt_of_getElem? h3⟩
 obtain⟨hkbn,okb,hokb,hokl⟩:=hkb1
 have hfe:=qo (S:=S0) (df:=df) (slot fun _ _=>rfl) hf
 simp only [SV.ev,SV.evs,hokb,bxAt] at hfe
 have out:∀ {x S},RInv B n0 S0.length ks ρ1 t df (I x) S→S[S0.length]? = some .dfr→SatC B (I x) ⟨t,S,S0.length::df⟩:=fun {x S} hi hm=>by
  obtain⟨ρ,hρ,hR,hdd,hnS⟩:=hi.ex
  refine⟨ρ,⟨fun d hd=>?_,List.nodup_cons.2 ⟨fun h=>Nat.lt_irrefl _ (hdn _ h),hF1.nd⟩,fun k hk=>(hρ k (by omega)).trans (hF1.rig k hk),Nat.le_trans hBn (hnx x),fun h=>(hz h).elim⟩,hR⟩
  rcases List.mem_cons.1 hd with rfl|hd
  ·exact⟨hm,hB⟩
  ·exact⟨hdd d hd,(hF1.dm d hd).2⟩
 refine qs8 (S0:=S0) hit rfl hfe hrun
  (fun i S=>∃ x,P i x∧RInv B n0 S0.length ks ρ1 t df (I x) S) (fun c S=>∃ x,D c x∧RInv B n0 S0.length ks ρ1 t df (I x) S) ⟨x0,h0,hi0⟩ ?_ ?_ ?_ ?_ ?_ ?_
 ·rintro i S ⟨x,_,hi⟩
  obtain⟨ρ,hρ,hR,_⟩:=hi.ex
  have hk2:hpF (I x).hp kb=some (.cells T cv):=by unfold hpF;rw [hkb x]
  obtain⟨o,v,h1,h3,rfl⟩:=hR.hp.ok kb _ hk2
  rw [hρ kb hkbn,hokb] at h1
  simp only [AV.bx.injEq] at h1
  obtain⟨rfl,_⟩:=h1
  rw [hcv] at h3
  exact h3
 ·rintro i S S' hE ⟨x,hx,hi⟩
  exact⟨x,hx,hi.ext hks (hr x) hB hdn hE⟩
 ·rintro c S S' hE ⟨x,hx,hi⟩
  exact⟨x,hx,hi.ext hks (hr x) hB hdn hE⟩
 ·rintro F own rd i u j S hF ⟨x,hx,hi⟩ hy hm0 hm1 hm2
  obtain⟨v,hv,hu⟩:∃ v,Y i=some (v,j)∧u=v.ev fun _=>zv:=by
   unfold evY at hy
   split at hy
   ·rename_i v j2 hv
    simp only [Option.some.injEq,Prod.mk.injEq] at hy
    obtain⟨rfl,rfl⟩:=hy
    exact⟨v,hv,rfl⟩
   ·simp at hy
  subst hu
  have hva:=hY i v j hv
  obtain⟨ρ,hρ,hR,hdd,hnS⟩:=hi.ex
  -- what no resource's place is
  have qal:∀ o y,S[o]? = some y→S0.length≤o→(∀ m sz T,y≠.tip m sz T)→¬ qao (I x).hp ρ o:=fun o y hy ho hyt ⟨k,r,hk,hl⟩=>by
   rcases SR.ok_ct (hR.hp.ok k r hk) hl with⟨T,cs,v,h1,T',cs',rfl⟩ | ⟨m,sz,T,h1⟩ | ⟨sz,T,xs,rfl⟩ | ⟨P1,rfl⟩ | ⟨T2,ys2,cs2,rfl⟩
   rotate_left 2
   ·exact (q2x (hr x) hk).elim
   ·obtain⟨_,o',h2,h3⟩:=q2p hks (hr x) hρ hk
    rw [h2] at hl
    simp only [Option.some.injEq] at hl
    omega
   ·exact (qx5 (hr x) hk).elim
   ·obtain⟨_,o',h2,h3⟩:=qtb hks (hr x) hρ hk
    rw [h2] at hl
    simp only [Option.some.injEq] at hl
    omega
   ·rw [h1] at hy
    simp only [Option.some.injEq] at hy
    exact hyt _ _ _ hy.symm
  have a0:=qal _ _ hm0 (by omega) (fun _ _ _=>by simp)
  have a1:=qal _ _ hm1 (by omega) (fun _ _ _=>by rw [hF];simp)
  have a2:=fun k y hk=>qal _ _ (hm2 k y hk).1 (by omega) (fun m sz T e=>(hm2 k y hk).2 m sz T (by rw [e]))
  have ad:∀ d∈df,¬ qao (I x).hp ρ d:=fun d hd ⟨k,r,hk,hl⟩=>SR.ok_dfr (hR.hp.ok k r hk) hl (hdd d hd)
  have l2:=lt_of_getElem? hm1
  have s1:=((hb i x v j hx hv).run S (qao (I x).hp ρ) ρ1 rd).run ⟨put t p (v.ev fun _=>zv),S,[]⟩
   ⟨ρ,⟨nofun,List.nodup_nil,hρ,hnx x,fun _=>rfl⟩,?_⟩
  rotate_left
  ·have hb1:=hR.rebase (S':=S) fun _ _=>rfl
   refine⟨fun d v hd=>?_,hb1.hp,hb1.own,hb1.low,hb1.len,fun d v hd=>?_,hb1.whp⟩
   ·simp only [lkS] at hd
    cases hbe:Nat.beq p d with
    |true=>
     rw [hbe] at hd
     simp only [cond_true,Option.some.injEq] at hd
     have e:=Nat.eq_of_beq_eq_true hbe
     subst e hd
     simp only [put]
     rw [yl (f:=fun _=>false) (ρ:=fun _=>zv) (ρ':= ρ) (fun k hk=>by simp at hk) v hva]
     simp
    |false=>
     rw [hbe] at hd
     have e:d≠p:=fun e=>by subst e;simp at hbe
     have:=hb1.sl d v hd
     simp only [put]
     rw [show Nat.beq d p=false from zp e]
     exact this
   ·simp only [lkS] at hd
    cases hbe:Nat.beq p d with
    |true=>
     rw [hbe] at hd
     simp only [cond_true,Option.some.injEq] at hd
     subst hd
     exact all_mono (f:=fun _=>false) (fun k hk=>by simp at hk) v hva
    |false=>
     rw [hbe] at hd
     exact hb1.wsl d _ hd
  refine s1.mono fun e s1 ⟨C1,hq,hs1⟩=>?_
  cases e with
  |normal=>
   obtain⟨ρs,hFs,hRs⟩:=hs1
   have hdf1:=hFs.dz trivial
   have b1:s1.st[S0.length+1]? = some (F .ready none):=(hRs.low _ (by simp only;omega) a1).trans hm1
   refine⟨b1,hdf1,?_⟩
   have hq:=(hq (qao C1.hp ρs)).run (s1.st.set (S0.length+1) (F .busy none)) (some rd)
   have c0:∀ o,o<S.length→¬ qao (I x).hp ρ o→¬ qao C1.hp ρs o:=fun o ho hn ⟨k,r,hk,hl⟩=>by
    rcases hRs.own k r hk o hl with h|h
    ·simp only at h
     omega
    ·exact hn h
   have hRb:=hRs.rebase (S':=s1.st.set (S0.length+1) (F .busy none)) fun o ho=>List.getElem?_set_ne fun e=>c0 (S0.length+1) (by omega) a1 (by rw [e];exact ho)
   refine (hq.run ⟨s1.t,s1.st.set (S0.length+1) (F .busy none),[]⟩ ⟨ρs,⟨nofun,List.nodup_nil,hFs.rig,hFs.le,nofun⟩,hRb⟩).mono fun e s2 ⟨C2,hq2,hs2⟩=>?_
   obtain⟨ρ2,hF2,hR2⟩:=hs2
   have hl1:=hRs.len
   have keep:∀ o y,o≠S0.length+1→S[o]? = some y→¬ qao (I x).hp ρ o→s2.st[o]? = some y:=fun o y hne hy hn=>by
    have ho:=lt_of_getElem? hy
    rw [hR2.low o (by simp only [List.length_set];simp only at hl1;omega) (c0 o ho hn)]
    simp only
    rw [List.getElem?_set_ne (fun e=>hne e.symm),hRs.low o ho hn]
    exact hy
   have k0:=keep _ _ (by omega) hm0 a0
   have k2:∀ k y,own[k]? = some y→s2.st[S0.length+2+k]? = some y:=fun k y hk=>keep _ _ (by omega) (hm2 k y hk).1 (a2 k y hk)
   have k1:s2.st[S0.length+1]? = some (F .busy none):=by
    rw [hR2.low _ (by simp only [List.length_set];simp only at hl1;omega) (c0 _ (by omega) a1)]
    simp only
    exact jy b1
   have fin:∀ x',EntA n0 C2 (I x')→RInv B n0 S0.length ks ρ1 t df (I x') s2.st:=fun x' he'=>by
    obtain⟨σ2,hrg2,he2⟩:=he'.ent
    have hF3:=hF2.ren (C':=I x') hrg2
    obtain⟨t3,_,hR3⟩:=he2.sat hR2
    have hl3:=hR3.len
    simp only [List.length_set] at hl3
    simp only at hl1
    refine⟨_,hF3.rig,⟨by rw [hsl];exact slot hF3.rig,hR3.hp,fun k r hk o ho=>?_,fun j hj hnj=>?_,by omega,hR3.wsl,hR3.whp⟩,fun d hd=>?_,by omega⟩
    ·rcases hR3.own k r hk o ho with h | ⟨k',r',h,h'⟩
     ·simp only [List.length_set] at h
      exact .inl (by omega)
     ·rcases hRs.own k' r' h o h' with h | ⟨k2,r2,h2,h3⟩
      ·simp only at h
       exact .inl (by omega)
      ·exact hR.own k2 r2 h2 o h3
    ·have hj0:¬ qao (I x).hp ρ j:=fun ⟨k',r',h,h'⟩=>by
      rcases hR.own k' r' h j h' with h|h
      ·omega
      ·exact hnj h
     have hjS:j<S.length:=by omega
     rw [← hR.low j hj hnj]
     obtain⟨y,hy⟩:∃ y,S[j]? = some y:=⟨_,List.getElem?_eq_getElem hjS⟩
     rw [hy]
     exact keep j y (by omega) hy hj0
    ·exact keep d _ (by have:=hdn d hd;omega) (hdd d hd) (ad d hd)
   cases e with
   |normal=>
    obtain⟨x',hx',he'⟩:=hq2
    exact⟨k0,k1,k2,x',hx',fin x' he'⟩
   |ret=>
    obtain⟨x',hx',he'⟩:=hq2
    exact⟨k0,k1,k2,x',hx',fin x' he'⟩
   |exit id=>
    obtain⟨x',hx',he'⟩:=hq2
    exact⟨k0,k1,k2,x',hx',fin x' he'⟩
   | _=>exact hq2.elim
  | _=>exact hq.elim
 ·rintro i S hy ⟨x,hx,hi⟩ hm
  exact⟨I x,hn i x (by
   unfold evY at hy
   split at hy
   ·simp at hy
   ·assumption) hx,out hi hm⟩
 ·rintro c S ⟨x,hx,hi⟩ hm
  have hq:=hd c x hx
  cases c with
  |ret=>exact zi ⟨I x,hq,out hi hm⟩
  |exit id=>exact vt ⟨I x,hq,out hi hm⟩
  | _=>exact hq.elim⟩
theorem qpo {X:Type} {f:Operand} {p:Tmp} {asg body:Code} (text:List UInt8) (kb n0:Nat) (ks:List Nat) (I:X→Conf) (sl0:List (Nat×SV)) (P:Nat→List UInt8→X→Prop) (D:Code→X→Prop) (x0:X) (h0:P 0 text x0)
  (he:EntA B.n0 C (I x0)) (hz:¬ B.dz) (ht:text.length<4294967281) (hsl:∀ x,(I x).sl=sl0)
  (hf:sval N sl0 f=some (.fn (.func 160) [] [.bx kb 0]))
  (hkb:∀ x,lkS (I x).hp kb=some (some (.cells 9 [.s text])))
  (hr:∀ x,y9 n0 ks (I x).sl (I x).hp (I x).nx=true) (h0r:(ksIn n0 ks (I x0).hp && Nat.ble B.n0 n0)=true)
  (hb:∀ k rest x,P k rest x→rest≠[]→rest.length≤text.length→RA E N n0 asg (fun F ρ C1=>RB E N F ρ n0 body (rndQ n0 (P (k+1) (past 10 rest)) D I) C1) ⟨(p,qnv k text rest)::(I x).sl,(I x).hp,(I x).nx⟩)
  (hn:∀ k x,P k [] x→Q .normal (I x)) (hd:∀ c x,D c x→qy0 Q c (I x)):Sm E none N B (.rangeFunc f #[p] asg body) Q C:=by
 have hY:evY (fun (q:Nat×List UInt8)=>if q.2=[]∨text.length<q.2.length then none else some (qnv q.1 text q.2,(q.1+1,past 10 q.2)))=qjw text:=by
  funext ⟨k,rest⟩
  by_cases h:rest=[]∨text.length<rest.length
  ·simp [evY,qjw,h]
  ·simp [evY,qjw,h,q48]
 refine qle (Y:=fun (q:Nat×List UInt8)=>if q.2=[]∨text.length<q.2.length then none else some (qnv q.1 text q.2,(q.1+1,past 10 q.2))) (i0:=(0,text)) (by rw [hY];exact q58 text ht) Tryz.call160 (fun i v j h=>?_) kb n0 [.s text] (fun _=>rfl) ks I sl0 (fun i x=>P i.1 i.2 x∧i.2.length≤text.length) D x0 ⟨h0,Nat.le_refl _⟩ he hz hsl hf hkb hr h0r (fun i x v j hp h=>?_) (fun i x h hp=>?_) hd
 ·split at h
  ·simp at h
  ·simp only [Option.some.injEq,Prod.mk.injEq] at h
   obtain⟨rfl,_⟩:=h
   rfl
 ·split at h
  ·simp at h
  ·rename_i hne
   simp only [Option.some.injEq,Prod.mk.injEq] at h
   obtain⟨rfl,rfl⟩:=h
   have hb:=hb i.1 i.2 x hp.1 (fun e=>hne (.inl e)) hp.2
   have hp2:=xn 10 i.2
   exact⟨fun S F ρ rd=>⟨fun s hs=>((hb.run S F ρ rd).run s hs).mono fun e s' ⟨C',hq,hs'⟩=>⟨C',by
    cases e with
    |normal=>exact fun F'=>⟨fun S rd=>qvd ((hq F').run S rd) fun e C2 hq2=>by
      cases e with
      |normal=>obtain⟨x,h1,h2⟩:=hq2;exact⟨x,⟨h1,by simp only;have:=hp.2;omega⟩,h2⟩
      | _=>exact hq2⟩
    | _=>exact hq,hs'⟩⟩⟩
 ·split at h
  ·rename_i he
   have:i.2=[]:=he.elim id fun h=>by have:=hp.2;omega
   refine hn i.1 x ?_
   rw [← this]
   exact hp.1
  ·simp at h
end
theorem q0e {nx:Nat} {H:Nat→Option SR} (text:qc):jo E 104 [.s text] nx H ⟨.fn (.func 160) [] [.bx nx 0],[],[(nx,some (.cells 9 [.s text]))],nx+1⟩:=fun ρ S hS=>by
 refine (q9f text S _ S.length rfl rfl).mono fun r S' ⟨hr,hs⟩=>⟨upd ρ nx (.bx S.length 0 0),?_,?_⟩
 ·rw [hr]
  simp only [SV.ev,SV.evs,z8,bxAt]
 ·subst hs
  have key:∀ k r',chF [(nx,some (SR.cells 9 [.s text]))] (resF [] H) k=some r'→k=nx∧r' = .cells 9 [.s text]:=fun k r' hk=>by
   simp only [chF,lkS] at hk
   cases hb:Nat.beq nx k with
   |true=>
    rw [hb] at hk
    simp only [cond_true,Option.some.injEq] at hk
    exact⟨(Nat.eq_of_beq_eq_true hb).symm,hk.symm⟩
   |false=>
    rw [hb] at hk
    simp [resF,memN] at hk
  refine⟨fun k hk=>vr _ _ (by simp only at hk;omega),⟨fun k r hk=>?_,fun k k' r r' hne h1 h2=>?_⟩,by simp,fun j hj _=>List.getElem?_append_left hj,fun k r hk o ho=>?_⟩
  ·obtain⟨rfl,rfl⟩:=key _ _ hk
   exact⟨S.length,0,z8 _ _ _,by simp [SV.evs,SV.ev],rfl⟩
  ·obtain⟨rfl,_⟩:=key _ _ h1
   obtain⟨rfl,_⟩:=key _ _ h2
   exact absurd rfl hne
  ·obtain⟨rfl,_⟩:=key _ _ hk
   rw [z8] at ho
   simp only [qy,Option.some.injEq] at ho
   subst ho
   exact .inl (Nat.le_refl _)
end Go.Proofs.YtejoahlpbckbeaaGreatDoor
namespace Go.Av
open Go Go.RowKit
def j6 (hp:List (Nat×Option SR)):List (Nat×Option SR):=hp.map fun q=>(q.1,none)
def retS (P:Program) (fn:Func) (nx0:Nat) (r:SV) (hp1:List (Nat×Option SR)) (nx1:Nat) (e:Exit) (C:Conf):Prop:=
 match e with
 | .normal=>(match resV P fn.ntmps C fn.results.toList with
  |some v=>v.all (fun k=>Nat.blt k C.nx)=true∧EntA nx0 ⟨[(0,v)],C.hp,C.nx⟩ ⟨[(0,r)],hp1,nx1⟩
  |none=>False)
 | .ret=>(match resV P fn.ntmps C fn.results.toList with
  |some v=>v.all (fun k=>Nat.blt k C.nx)=true∧EntA nx0 ⟨[(0,v)],C.hp,C.nx⟩ ⟨[(0,r)],hp1,nx1⟩
  |none=>False)
 | _=>False
theorem qzs {hp:List (Nat×Option SR)} {k:Nat} {r:SR} (h:hpF hp k=some r):memN (je hp) k=true:=by
 have:=jv (vu h)
 exact List.any_eq_true.2 ⟨k,List.mem_map.2 ⟨_,this,rfl⟩,by simp⟩
theorem kw (hp:List (Nat×Option SR)):resF (je hp) (hpF hp)=hpF hp:=by
 funext k
 unfold resF
 cases h:memN (je hp) k with
 |true=>rfl
 |false=>
  cases h2:hpF hp k with
  |none=>rfl
  |some r=>rw [qzs h2] at h;simp at h
theorem qq2:∀ (hp:List (Nat×Option SR)) (k:Nat),lkS (j6 hp) k=none∧lkS hp k=none∨lkS (j6 hp) k=some none
 | [],_=>.inl ⟨rfl,rfl⟩
 |(i,x)::r,k=>by
  simp only [j6,List.map_cons,lkS]
  cases hb:Nat.beq i k with
  |true=>exact .inr rfl
  |false=>exact qq2 r k
theorem qb4 (hp0 hp1:List (Nat×Option SR)):chF (hp1++j6 hp0) (hpF hp0)=hpF hp1:=by
 funext k
 unfold chF
 rw [qav]
 unfold hpF
 cases h:lkS hp1 k with
 |some r=>rfl
 |none=>
  simp only
  rcases qq2 hp0 k with⟨h1,h2⟩|h1
  ·rw [h1,h2]
  ·rw [h1]
theorem vj {E:Env} {f:FuncId} {fn:Func} {c:Code} (vs:List SV) (hp0:List (Nat×Option SR)) (nx0:Nat) (r:SV) (hp1:List (Nat×Option SR)) (nx1:Nat) (hf:E.P.funcs[f]? = some fn) (hb:fn.body=some c) (hn:Nat.ble vs.length fn.ntmps=true)
  (hc:okC ⟨zq 0 vs,hp0,nx0⟩=true) (hc1:okC ⟨[(0,r)],hp1,nx1⟩=true)
  (h:∀ S F ρ,numK 0 vs fun sl=>Sm E none fn.ntmps ⟨S,F,ρ,nx0,False⟩ c (retS E.P fn nx0 r hp1 nx1) ⟨sl,hp0,nx0⟩):jo E f vs nx0 (hpF hp0) ⟨r,je hp0,hp1++j6 hp0,nx1⟩:=fun ρ S hS=>by
 simp only [qkf] at h
 simp only [kw] at hS
 have hlen:(SV.evs ρ vs).length=vs.length:=by rw [jl,List.length_map]
 refine qx hf hb (by rw [hlen];exact Nat.le_of_ble_eq_true hn) ?_
 rw [List.append_nil]
 simp only [okC,Bool.and_eq_true] at hc hc1
 have hwhp:∀ k r,hpF hp0 k=some r→k<nx0∧r.all (fun k=>Nat.blt k nx0)=true:=fun k r hk=>by
  have:=List.all_eq_true.1 hc.2 _ (jv (vu hk))
  simp only [Bool.and_eq_true] at this
  exact⟨ju this.1,this.2⟩
 have hst:SatC ⟨S,qao hp0 ρ,ρ,nx0,False⟩ ⟨zq 0 vs,hp0,nx0⟩ ⟨argT (SV.evs ρ vs),S,[]⟩:=by
  refine⟨ρ,⟨nofun,List.nodup_nil,fun _ _=>rfl,Nat.le_refl _,nofun⟩,⟨fun d v hd=>?_,hS,fun k r hk o ho=>.inr ⟨k,r,hk,ho⟩,fun _ _ _=>rfl,Nat.le_refl _,fun d v hd=>?_,hwhp⟩⟩
  ·obtain⟨j,h1,h2⟩:=qaw hd
   have:(SV.evs ρ vs)[j]? = some (v.ev ρ):=by rw [jl,List.getElem?_map,h2];rfl
   rw [h1,Nat.zero_add]
   simp only [argT,List.getD,this,Option.getD_some]
  ·exact List.all_eq_true.1 hc.1 _ (jv hd)
 refine ((h S (qao hp0 ρ) ρ).run _ hst).mono fun e s' ⟨C',hq,hs'⟩=>?_
 obtain⟨t,S',df⟩:=s'
 obtain⟨ρ2,hdf,hR⟩:=hs'
 simp only at hdf hR
 have fin:(match resV E.P fn.ntmps C' fn.results.toList with
  |some v=>v.all (fun k=>Nat.blt k C'.nx)=true∧EntA nx0 ⟨[(0,v)],C'.hp,C'.nx⟩ ⟨[(0,r)],hp1,nx1⟩
  |none=>False)→ARet E fn (fun r' S'=>∃ ρ',r'=r.ev ρ'∧qd8 ρ S nx0 (hpF hp0) ⟨r,je hp0,hp1++j6 hp0,nx1⟩ ρ' S') ⟨t,S',df⟩:=fun h=>by
  split at h
  ·rename_i v hv
   obtain⟨hva,he⟩:=h
   obtain⟨σ,hrg,he⟩:=he.ent
   refine qeb hR hdf.dm hdf.nd fun S2 hR2=>?_
   have hR3:SatR S (qao hp0 ρ) ⟨[(0,v)],C'.hp,C'.nx⟩ ρ2 (fun _=>v.ev ρ2) S2:=
    ⟨fun d u hd=>by
     simp only [lkS] at hd
     cases hb:Nat.beq 0 d with
     |true=>rw [hb] at hd;simp only [cond_true,Option.some.injEq] at hd;rw [hd]
     |false=>rw [hb] at hd;simp [lkS] at hd,hR2.hp,hR2.own,hR2.low,hR2.len,fun d u hd=>by
     simp only [lkS] at hd
     cases hb:Nat.beq 0 d with
     |true=>rw [hb] at hd;simp only [cond_true,Option.some.injEq] at hd;rw [← hd];exact hva
     |false=>rw [hb] at hd;simp [lkS] at hd,hR2.whp⟩
   obtain⟨t',hw,hR4⟩:=he.sat hR3
   have hrig:∀ k,k<nx0→renR σ ρ2 k = ρ k:=fun k hk=>by
    simp only [Bool.and_eq_true] at hrg
    unfold renR
    rw [ql9 hrg.1 k hk]
    exact hdf.rig k hk
   have hrn:nx0≤nx1:=by
    simp only [Bool.and_eq_true] at hrg
    exact Nat.le_of_ble_eq_true hrg.2
   generalize renR σ ρ2 = ρ3 at hR4 hrig
   have h0:t' 0=r.ev ρ3:=hR4.sl 0 r rfl
   have hwk:=hw 0
   rw [h0] at hwk
   let ρ':Nat→AV:=fun k=>bif Nat.ble nx1 k then ρ k else ρ3 k
   have hρ':∀ k,Nat.blt k nx1=true→ρ' k = ρ3 k:=fun k hk=>by
    show (bif Nat.ble nx1 k then ρ k else ρ3 k)=_
    have:Nat.ble nx1 k=false:=by
     cases hb:Nat.ble nx1 k with
     |false=>rfl
     |true=>have:=Nat.le_of_ble_eq_true hb;have:=ju hk;omega
    rw [this]
    rfl
   have hra:r.all (fun k=>Nat.blt k nx1)=true:=List.all_eq_true.1 hc1.1 (0,r) (by simp)
   have hev:r.ev ρ'=r.ev ρ3:=yl hρ' r hra
   refine qv rfl (yy (qx4 hR2 hv) hwk) ⟨ρ',hev.symm,?_⟩
   have hwh:∀ k r,hpF hp1 k=some r→ρ' k = ρ3 k∧r.all (fun k=>Nat.blt k nx1)=true:=fun k r hk=>by
    obtain⟨g1,g2⟩:=hR4.whp k r hk
    exact⟨hρ' k (ya g1),g2⟩
   refine⟨fun k hk=>?_,?_,hR4.len,fun j hj hn=>?_,fun k r hk o ho=>?_⟩
   ·show (bif Nat.ble nx1 k then ρ k else ρ3 k)=_
    cases hb:Nat.ble nx1 k with
    |true=>rfl
    |false=>
     rcases hk with hk|hk
     ·exact hrig k hk
     ·have:=Nat.ble_eq_true_of_le hk
      simp only at this
      rw [this] at hb
      simp at hb
   ·simp only [kw,qb4]
    refine⟨fun k r hk=>?_,fun k k' r r' hne h1 h2 o ho=>?_⟩
    ·obtain⟨g1,g2⟩:=hwh k r hk
     rw [g1]
     exact SR.ok_of g2 hρ' (hR4.hp.ok k r hk) fun _ _=>rfl
    ·rw [(hwh k r h1).1] at ho
     rw [(hwh k' r' h2).1]
     exact hR4.hp.sep k k' r r' hne h1 h2 o ho
   ·simp only [kw] at hn
    exact hR4.low j hj fun ⟨k,r,hk,hl⟩=>hn k r hk hl
   ·simp only [kw,qb4] at hk ⊢
    rw [(hwh k r hk).1] at ho
    exact hR4.own k r hk o ho
  ·exact h.elim
 cases e with
 |normal=>exact fin hq
 |ret=>exact fin hq
 | _=>exact hq.elim
def newN:Nat→Nat→Nat→List (Nat×Nat)
 | _,_,0=>[]
 |a,b,m+1=>(a,b)::newN (a+1) (b+1) m
theorem que:∀ (m a b k:Nat),lkS (newN a b m) k=if a≤k∧k<a+m then some (b+(k - a)) else none
 | 0,a,b,k=>by rw [if_neg (by omega)];rfl
 |m+1,a,b,k=>by
  simp only [newN,lkS]
  by_cases h:a=k
  ·subst h
   simp
  ·rw [zp h,que m]
   simp only [cond_false]
   by_cases h2:a+1≤k∧k<a+1+m
   ·rw [if_pos h2,if_pos (by omega)]
    congr 1
    omega
   ·rw [if_neg h2,if_neg (by omega)]
def nmOf (σ : List (Nat×Nat)) (k:Nat):Nat:=match lkS σ k with
 |some j=>j
 |none=>0
def SR.ren (σ : List (Nat×Nat)):SR→SR
 | .cells T cs=>.cells T (SV.rens σ cs)
 | .tip sz T xs=>.tip sz T xs
 | .own sz T xs=>.own sz T xs
 | .obj P=>.obj P
 | .rows T ys cs=>.rows T ys (SV.rens σ cs)
def renO (σ : List (Nat×Nat)):Option SR→Option SR
 |some r=>some (r.ren σ)
 |none=>none
def renH (σ : List (Nat×Nat)):List (Nat×Option SR)→List (Nat×Option SR)
 | []=>[]
 |(k,r)::l=>(nmOf σ k,renO σ r)::renH σ l
def fltH (ks:List Nat):List (Nat×Option SR)→List (Nat×Option SR)
 | []=>[]
 |(k,r)::l=>bif memN ks k then (k,r)::fltH ks l else fltH ks l
def outH (ks:List Nat):List (Nat×Option SR):=ks.map fun k=>(k,none)
def qm9:List Nat→Bool
 | []=>true
 |k::r=> !memN r k && qm9 r
theorem qxr (ks:List Nat):∀ (hp:List (Nat×Option SR)) (k:Nat),lkS (fltH ks hp) k=bif memN ks k then lkS hp k else none
 | [],k=>by simp only [fltH,lkS];cases memN ks k <;> rfl
 |(i,r)::l,k=>by
  have ih:=qxr ks l k
  simp only [fltH]
  by_cases e:i=k
  ·subst e
   cases hm:memN ks i with
   |true=>simp [lkS]
   |false=>rw [hm] at ih;simp only [cond_false] at ih ⊢;exact ih
  ·cases hm:memN ks i with
   |true=>simp only [cond_true,lkS,zp e,cond_false];exact ih
   |false=>simp only [cond_false,lkS,zp e];exact ih
theorem qxp (ks:List Nat) (hp:List (Nat×Option SR)):hpF (fltH ks hp)=resF ks (hpF hp):=by
 funext k
 unfold hpF resF
 rw [qxr]
 cases memN ks k <;> rfl
theorem qxt {σ : List (Nat×Nat)}:∀ {hp:List (Nat×Option SR)} {j:Nat} {rr:SR},lkS (renH σ hp) j=some (some rr)→∃ k r,(k,some r)∈hp∧nmOf σ k=j∧rr=r.ren σ
 | [],j,rr,h=>by simp [renH,lkS] at h
 |(k,r)::l,j,rr,h=>by
  simp only [renH,lkS] at h
  cases hb:Nat.beq (nmOf σ k) j with
  |true=>
   rw [hb] at h
   simp only [cond_true,Option.some.injEq] at h
   cases r with
   |none=>simp [renO] at h
   |some r=>
    simp only [renO,Option.some.injEq] at h
    exact⟨k,r,by simp,Nat.eq_of_beq_eq_true hb,h.symm⟩
  |false=>
   rw [hb] at h
   obtain⟨k',r',h1,h2,h3⟩:=qxt h
   exact⟨k',r',List.mem_cons_of_mem _ h1,h2,h3⟩
theorem qqj:∀ {hp:List (Nat×Option SR)} {k:Nat} {r:SR},qm9 (je hp)=true→(k,some r)∈hp→hpF hp k=some r
 | [],k,r,_,h=>by simp at h
 |(i,x)::l,k,r,hd,h=>by
  simp only [je,List.map_cons,qm9,Bool.and_eq_true] at hd
  unfold hpF
  simp only [lkS]
  rcases List.mem_cons.1 h with e|e
  ·simp only [Prod.mk.injEq] at e
   obtain⟨rfl,rfl⟩:=e
   simp
  ·have hne:i≠k:=fun e'=>by
    subst e'
    have:memN (List.map Prod.fst l) i=true:=List.any_eq_true.2 ⟨i,List.mem_map.2 ⟨_,e,rfl⟩,by simp⟩
    rw [this] at hd
    simp at hd
   rw [zp hne]
   exact qqj hd.2 e
theorem qxs:∀ (ks:List Nat) (j:Nat),lkS (outH ks) j=bif memN ks j then some none else none
 | [],j=>rfl
 |k::r,j=>by
  have ih:=qxs r j
  simp only [outH,List.map_cons,lkS,memN,List.any_cons]
  by_cases e:k=j
  ·subst e;simp
  ·rw [zp e,zp (fun h=>e h.symm)]
   exact ih
theorem quj {α : Type}:∀ {l:List α} {i0 i:Nat} {v : α},l[i]? = some v→lkS (zq i0 l) (i0+i)=some v
 | [],_,_,_,h=>by simp at h
 |x::r,i0,0,v,h=>by
  simp only [List.getElem?_cons_zero,Option.some.injEq] at h
  subst h
  simp [zq,lkS]
 |x::r,i0,i+1,v,h=>by
  simp only [zq,lkS]
  rw [zp (by omega),show i0+(i+1)=i0+1+i by omega]
  exact quj (by simpa using h)
theorem q95 {E:Env} {f:FuncId} {vs0:List SV} {hp0:List (Nat×Option SR)} {nx0:Nat} {r:SV} {hp1:List (Nat×Option SR)} {nx1:Nat} (h:jo E f vs0 nx0 (hpF hp0) ⟨r,je hp0,hp1++j6 hp0,nx1⟩)
  (σ : List (Nat×Nat)) {hpU:List (Nat×Option SR)} {vs:List SV} {nx:Nat} (hl:vs.length=vs0.length) (hc:okC ⟨zq 0 vs,fltH (σ.map Prod.snd) hpU,nx⟩=true)
  (he:EntC σ ⟨zq 0 vs,fltH (σ.map Prod.snd) hpU,nx⟩ ⟨zq 0 vs0,hp0,nx0⟩) (hc1:okC ⟨[(0,r)],hp1,nx1⟩=true)
  (hk:(qm9 (je hp1) && hp1.all (fun q=>(lkS (newN nx0 nx (nx1 - nx0) ++ σ) q.1).isSome) && σ.all (fun q=>Nat.blt q.1 nx0 && Nat.blt q.2 nx) && Nat.ble nx0 nx1)=true) :
  jo E f vs nx (hpF hpU) ⟨r.ren (newN nx0 nx (nx1 - nx0) ++ σ),σ.map Prod.snd,renH (newN nx0 nx (nx1 - nx0) ++ σ) hp1++outH (σ.map Prod.snd),nx+(nx1 - nx0)⟩:=fun ρ S hS=>by
 simp only at hS
 simp only [Bool.and_eq_true] at hk
 obtain⟨⟨⟨hd,hsm⟩,hσ⟩,hn⟩:=hk
 have hn:=Nat.le_of_ble_eq_true hn
 simp only [okC,Bool.and_eq_true] at hc hc1
 generalize hks : σ.map Prod.snd=ks at hS hc he ⊢
 obtain⟨m,hm⟩:∃ m,m=nx1 - nx0:=⟨_,rfl⟩
 rw [← hm] at hsm ⊢
 have hR:SatR S (qao (fltH ks hpU) ρ) ⟨zq 0 vs,fltH ks hpU,nx⟩ ρ (argT (SV.evs ρ vs)) S:=by
  refine⟨fun d v hd=>?_,by simp only [qxp];exact hS,fun k r hk o ho=>.inr ⟨k,r,hk,ho⟩,fun _ _ _=>rfl,Nat.le_refl _,fun d v hd=>List.all_eq_true.1 hc.1 _ (jv hd),fun k r hk=>?_⟩
  ·obtain⟨j,h1,h2⟩:=qaw hd
   have:(SV.evs ρ vs)[j]? = some (v.ev ρ):=by rw [jl,List.getElem?_map,h2];rfl
   rw [h1,Nat.zero_add]
   simp only [argT,List.getD,this,Option.getD_some]
  ·have:=List.all_eq_true.1 hc.2 _ (jv (vu hk))
   simp only [Bool.and_eq_true] at this
   exact⟨ju this.1,this.2⟩
 obtain⟨t',hw,hR'⟩:=he.sat hR
 have hrc:∀ k j,lkS σ k=some j→renR σ ρ k = ρ j:=fun k j e=>by unfold renR;rw [e]
 have hrn:∀ k,lkS σ k=none→renR σ ρ k=zv:=fun k e=>by unfold renR;rw [e]
 -- where a canonical resource lies
 have foot:∀ k r,hpF hp0 k=some r→∀ o,qy (renR σ ρ k)=some o→∃ j r',resF ks (hpF hpU) j=some r'∧qy (ρ j)=some o:=fun k r hk o ho=>by
  have hE:=qc1 he.2.1 (vu hk)
  simp only [qxp] at hE
  unfold entR at hE
  cases hl:lkS σ k with
  |none=>
   rw [hrn k hl] at ho
   simp [qy] at ho
  |some j=>
   rw [hrc k j hl] at ho
   rw [hl] at hE
   cases hj:resF ks (hpF hpU) j with
   |none=>cases r <;> (simp only [hj] at hE)
   |some r'=>exact⟨j,r',hj,ho⟩
 have hS0:SatF S (renR σ ρ) (hpF hp0):=hR'.hp
 refine qsn (ys:=SV.evs (renR σ ρ) vs0) (by simp [jl,hl]) (fun i x y hx hy=>?_) ((h (renR σ ρ) S (by simp only [kw];exact hS0)).mono fun r' S' ⟨ρc,hr,hp⟩=>?_)
 ·have h1:=hw i
  simp only [jl,List.getElem?_map] at hy hx
  cases hv:vs0[i]? with
  |none=>rw [hv] at hy;simp at hy
  |some v=>
   rw [hv] at hy
   simp only [Option.map_some,Option.some.injEq] at hy
   have h2:=hR'.sl i v (by have:=quj (i0:=0) hv;rwa [Nat.zero_add] at this)
   rw [h2,hy] at h1
   have:argT (SV.evs ρ vs) i=x:=by simp only [argT,List.getD,jl,List.getElem?_map,hx,Option.getD_some]
   rw [this] at h1
   exact h1
 ·let ρ':Nat→AV:=fun j=>bif Nat.ble nx j && Nat.blt j (nx+m) then ρc (nx0+(j - nx)) else ρ j
  have hold:∀ j,(j<nx∨nx+m≤j)→ρ' j = ρ j:=fun j hj=>by
   show (bif Nat.ble nx j && Nat.blt j (nx+m) then ρc (nx0+(j - nx)) else ρ j) = ρ j
   have:(Nat.ble nx j && Nat.blt j (nx+m))=false:=by
    cases hb:(Nat.ble nx j && Nat.blt j (nx+m)) with
    |false=>rfl
    |true=>
     simp only [Bool.and_eq_true] at hb
     have h1:=Nat.le_of_ble_eq_true hb.1
     have h2:=ju hb.2
     omega
   rw [this]
   rfl
  have hnew:∀ i,i<m→ρ' (nx+i) = ρc (nx0+i):=fun i hi=>by
   show (bif Nat.ble nx (nx+i) && Nat.blt (nx+i) (nx+m) then ρc (nx0+(nx+i - nx)) else ρ (nx+i))=_
   have h1:Nat.ble nx (nx+i)=true:=Nat.ble_eq_true_of_le (by omega)
   have h2:Nat.blt (nx+i) (nx+m)=true:=ya (by omega)
   rw [h1,h2,show nx+i - nx=i by omega]
   rfl
  have hσj:∀ k j,lkS σ k=some j→k<nx0∧j<nx:=fun k j e=>by
   have:=List.all_eq_true.1 hσ _ (jv e)
   simp only [Bool.and_eq_true] at this
   exact⟨ju this.1,ju this.2⟩
  have hro:∀ k,k<nx0→ρc k=renR σ ρ k:=fun k hk=>hp.old k (.inl hk)
  have key:∀ k,k<nx1→renR (newN nx0 nx m ++ σ) ρ' k = ρc k:=fun k hk=>by
   have e:renR (newN nx0 nx m ++ σ) ρ' k=match lkS (newN nx0 nx m ++ σ) k with|some j=> ρ' j|none=>zv:=rfl
   rw [e,qav,que]
   by_cases hkn:nx0≤k
   ·rw [if_pos ⟨hkn,by omega⟩]
    simp only
    rw [hnew _ (by omega),show nx0+(k - nx0)=k by omega]
   ·rw [if_neg (by omega),hro k (by omega)]
    simp only
    cases hl:lkS σ k with
    |none=>rw [hrn k hl]
    |some j=>
     rw [hrc k j hl]
     exact hold j (.inl (hσj k j hl).2)
  have keyj:∀ k,k<nx1→(lkS (newN nx0 nx m ++ σ) k).isSome=true→ρ' (nmOf (newN nx0 nx m ++ σ) k) = ρc k:=fun k hk hs=>by
   rw [← key k hk]
   unfold renR nmOf
   cases hl:lkS (newN nx0 nx m ++ σ) k with
   |none=>rw [hl] at hs;simp at hs
   |some j=>rfl
  have res:∀ j rr,chF (renH (newN nx0 nx m ++ σ) hp1++outH ks) (resF ks (hpF hpU)) j=some rr→∃ k r,hpF hp1 k=some r∧nmOf (newN nx0 nx m ++ σ) k=j∧rr=r.ren (newN nx0 nx m ++ σ)∧ρ' j = ρc k∧r.all (fun k=>Nat.blt k nx1)=true:=fun j rr hj=>by
   unfold chF at hj
   rw [qav] at hj
   cases hl:lkS (renH (newN nx0 nx m ++ σ) hp1) j with
   |some x=>
    rw [hl] at hj
    simp only at hj
    subst hj
    obtain⟨k,r,h1,h2,h3⟩:=qxt hl
    have h4:=List.all_eq_true.1 hc1.2 _ h1
    simp only [Bool.and_eq_true] at h4
    have h5:=List.all_eq_true.1 hsm _ h1
    refine⟨k,r,qqj hd h1,h2,h3,?_,h4.2⟩
    rw [← h2]
    exact keyj k (ju h4.1) h5
   |none=>
    rw [hl] at hj
    simp only [qxs] at hj
    cases hmm:memN ks j with
    |true=>rw [hmm] at hj;simp at hj
    |false=>
     rw [hmm] at hj
     simp [resF,hmm] at hj
  have hra:r.all (fun k=>Nat.blt k nx1)=true:=List.all_eq_true.1 hc1.1 (0,r) (by simp)
  refine⟨ρ',?_,fun k hk=>hold k hk,⟨fun j rr hj=>?_,fun j j' rr rr' hne h1 h2 o ho=>?_⟩,hp.len,fun j hj hnj=>?_,fun j rr hj o ho=>?_⟩
  ·rw [hr]
   simp only
   rw [qoi]
   exact (yl (fun k hk=>key k (ju hk)) r hra).symm
  ·obtain⟨k,r0,h1,h2,rfl,h4,h5⟩:=res j rr hj
   rw [h4]
   have hsat:=hp.sat
   simp only [kw,qb4] at hsat
   have hok:=hsat.ok k r0 h1
   cases r0 with
   |cells T cs=>
    obtain⟨o,v,g1,g2,g3⟩:=hok
    refine⟨o,v,g1,?_,g3⟩
    rw [qa8,xb (fun k hk=>key k (ju hk)) cs h5]
    exact g2
   |tip sz T xs=>exact hok
   |own sz T xs=>exact hok
   |obj P=>exact hok
   |rows T ys cs=>
    show OwnS _ 1 T (ys++SV.evs _ (SV.rens _ cs)) _
    rw [qa8,xb (fun k hk=>key k (ju hk)) cs h5]
    exact hok
  ·obtain⟨k,r0,h3,h4,_,h5,_⟩:=res j rr h1
   obtain⟨k',r0',h3',h4',_,h5',_⟩:=res j' rr' h2
   rw [h5] at ho
   rw [h5']
   have hsat:=hp.sat
   simp only [kw,qb4] at hsat
   exact hsat.sep k k' r0 r0' (fun e=>hne (by rw [← h4,← h4',e])) h3 h3' o ho
  ·refine hp.fr j hj fun k r0 hk hlo=>?_
   simp only [kw] at hk
   obtain⟨j',r',g1,g2⟩:=foot k r0 hk j hlo
   exact hnj j' r' g1 g2
  ·obtain⟨k,r0,h1,h2,_,h4,_⟩:=res j rr hj
   rw [h4] at ho
   have hlc:=hp.loc k r0 (by simp only [kw,qb4];exact h1) o ho
   rcases hlc with g | ⟨k',r',g1,g2⟩
   ·exact .inl g
   ·simp only [kw] at g1
    obtain⟨j',r'',g3,g4⟩:=foot k' r' g1 o g2
    exact .inr ⟨j',r'',g3,g4⟩
def useW (vs0:List SV) (hp0:List (Nat×Option SR)) (nx0:Nat) (r:SV) (hp1:List (Nat×Option SR)) (nx1:Nat) (hpU:List (Nat×Option SR)) (vs:List SV) (nx:Nat) (k:Ef→Prop):Prop:=
 fcP (addS [] (prsL vs0 vs)) fun a=>fcP (addS a (sigH (hpF hpU) a hp0)) fun σ=>
  vs.length=vs0.length∧okC ⟨zq 0 vs,fltH (σ.map Prod.snd) hpU,nx⟩=true∧EntC σ ⟨zq 0 vs,fltH (σ.map Prod.snd) hpU,nx⟩ ⟨zq 0 vs0,hp0,nx0⟩∧okC ⟨[(0,r)],hp1,nx1⟩=true ∧
   (qm9 (je hp1) && hp1.all (fun q=>(lkS (newN nx0 nx (nx1 - nx0) ++ σ) q.1).isSome) && σ.all (fun q=>Nat.blt q.1 nx0 && Nat.blt q.2 nx) && Nat.ble nx0 nx1)=true ∧
   k ⟨r.ren (newN nx0 nx (nx1 - nx0) ++ σ),σ.map Prod.snd,renH (newN nx0 nx (nx1 - nx0) ++ σ) hp1++outH (σ.map Prod.snd),nx+(nx1 - nx0)⟩
theorem z0 {E:Env} {f:FuncId} {vs0:List SV} {hp0:List (Nat×Option SR)} {nx0:Nat} {r:SV} {hp1:List (Nat×Option SR)} {nx1:Nat} (h:jo E f vs0 nx0 (hpF hp0) ⟨r,je hp0,hp1++j6 hp0,nx1⟩) {hpU:List (Nat×Option SR)} {vs:List SV} {nx:Nat} {k:Ef→Prop}
  (hw:useW vs0 hp0 nx0 r hp1 nx1 hpU vs nx k):∃ e,jo E f vs nx (hpF hpU) e∧k e:=by
 unfold useW at hw
 simp only [qtq] at hw
 obtain⟨h1,h2,h3,h4,h5,h6⟩:=hw
 exact⟨_,q95 h _ h1 h2 h3 h4 h5,h6⟩
theorem q6z {l m:List AV} (hl:l.length=m.length) (h:∀ (i:Nat) (x y:AV),l[i]? = some x→m[i]? = some y→Wk x y):Wk (.pp l) (.pp m):=fun G v hr=>by
 cases hr with
 |pp _ b off pub hp hlen hr=>
  refine .pp m b off pub hp (by omega) fun i y z hy hz=>?_
  have hi:i<l.length:=by have:=lt_of_getElem? hy;omega
  have hx:l[i]? = some l[i]:=List.getElem?_eq_getElem hi
  exact h i _ y hx hy G z (hr i _ z hx hz)
theorem qs7 {E:Env} {fn:Func} {R:AV→List AObj→Prop} {s:AS} {d o ver:Nat} {T:TypeId} {cs xs:List AV} (hi:s.t d = .bx o ver 0) (ho:s.st[o]? = some (.cells ver T cs)) (hw:Wk (.pp cs) (.pp xs))
  (h:ARet E fn R ⟨Av.put s.t d (.pp xs),s.st.set o .dead,s.df⟩):ARet E fn R s:=
 ⟨fun B0 w0 G a w hL hI R2 hR=>by
  obtain⟨G1,h1,h2⟩:=hI.pub hi ho
  refine h.run B0 w0 G1 a w hL ⟨h2.agree,h2.defers,h2.size,fun j y hy=>?_⟩ R2 fun v G' r st' w' hG=>hR v G' r st' w' (h1.trans hG)
  have hj:=h2.tmps j y hy
  by_cases e:j=d
  ·subst e
   simp only [wg] at hj ⊢
   exact hw G1 y hj
  ·simp only at hj ⊢
   rw [xx _ _ _ _ e] at hj ⊢
   exact hj⟩
theorem q06 {E:Env} {fn:Func} {R:AV→List AObj→Prop} {s:AS} {d o ver o2 ver2 sz cap:Nat} {T T2:TypeId} {cs xs ys pad:List AV} (hi:s.t d = .bx o ver 0) (ho:s.st[o]? = some (.cells ver T cs)) (ho2:s.st[o2]? = some (.cells ver2 T2 (flat ys++pad))) (hne:o≠o2) (hw:∀ y∈ys,y.cells.length=sz) (hc:ys.length≤cap) (hl:cs.length=xs.length)
  (hx:∀ (i:Nat) (x y:AV),cs[i]? = some x→xs[i]? = some y→Wk x y∨(x = .os o2 ver2 0 ys.length cap∧y = .sl sz ys none)) (h:ARet E fn R ⟨Av.put s.t d (.pp xs),(s.st.set o .dead).set o2 .dead,s.df⟩):ARet E fn R s:=
 ⟨fun B0 w0 G a w hL hI R2 hR=>by
  obtain⟨G1,h1,h2⟩:=hI.pub hi ho
  have ho3:(s.st.set o .dead)[o2]? = some (.cells ver2 T2 (flat ys++pad)):=(List.getElem?_set_ne hne).trans ho2
  obtain⟨vs,hle,hA,hv,hp,hl2,hr⟩:=h2.agree.pubOb ho3
  refine h.run B0 w0 _ a w hL ⟨hA,h2.defers_mono hle,h2.size,fun j y hy=>?_⟩ R2 fun v G' r st' w' hG=>hR v G' r st' w' (h1.trans (hle.trans hG))
  have hj:=(h2.tmps j y hy).mono hle
  by_cases e:j=d
  ·subst e
   simp only [wg] at hj ⊢
   cases hj with
   |pp _ b off pub hp2 hlen hrel=>
    refine .pp xs b off pub hp2 (by omega) fun i z u hz hu=>?_
    have hi:i<cs.length:=by have:=lt_of_getElem? hz;omega
    have hg:cs[i]? = some cs[i]:=List.getElem?_eq_getElem hi
    have hrl:=hrel i _ u hg hu
    rcases hx i _ z hg hz with hw1 | ⟨e1,rfl⟩
    ·exact hw1 _ _ hrl
    ·rw [e1] at hrl
     cases hrl with
     |os _ _ _ _ bl _ hn hv' hb=>
      have hb:=hb hv
      subst hb
      refine .sl sz ys none _ 0 cap vs hp hw (by rw [← hl2];simp) (fun k x y g1 g2=>hr k x y (by rw [List.getElem?_append_left (lt_of_getElem? g1)];exact g1) (by simpa using g2)) (fun t ht=>by simp at ht) hc
  ·simp only at hj ⊢
   rw [xx _ _ _ _ e] at hj ⊢
   exact hj⟩
theorem q69 {E:Env} {fn:Func} {R:AV→List AObj→Prop} {s:AS} {d o ver sz cap:Nat} {T:TypeId} {ys pad:List AV} (hi:s.t d = .os o ver 0 ys.length cap) (ho:s.st[o]? = some (.cells ver T (flat ys++pad))) (hw:∀ y∈ys,y.cells.length=sz) (hc:ys.length≤cap)
  (h:ARet E fn R ⟨Av.put s.t d (.sl sz ys none),s.st.set o .dead,s.df⟩):ARet E fn R s:=
 ⟨fun B0 w0 G a w hL hI R2 hR=>by
  obtain⟨G1,h1,h2⟩:=hI.osPub (xs:=ys) (sz:=sz) hi ho rfl hc hw (by rw [List.length_append,zo hw];omega) (by rw [List.drop_zero,← zo hw,List.take_left])
  exact h.run B0 w0 G1 a w hL h2 R2 fun v G' r st' w' hG=>hR v G' r st' w' (h1.trans hG)⟩
def q2w (H:Nat→Option SR):SV→Option (Nat×Nat×List AV)
 | .tp k=>(match H k with
  |some (.own sz _ ys)=>some (k,sz,ys)
  | _=>none)
 | _=>none
def qn9 (H:Nat→Option SR):List SV→Option (Nat×Nat×List AV)
 | []=>none
 |c::r=>(match q2w H c with
  |some x=>some x
  |none=>qn9 H r)
theorem quv {H:Nat→Option SR} {j sz:Nat} {ys:List AV}:∀ {cs:List SV},qn9 H cs=some (j,sz,ys)→∃ T,H j=some (.own sz T ys)
 | [],h=>by simp [qn9] at h
 |c::r,h=>by
  simp only [qn9] at h
  split at h
  ·rename_i x hx
   simp only [Option.some.injEq] at h
   subst h
   unfold q2w at hx
   split at hx
   ·split at hx
    ·rename_i hk
     simp only [Option.some.injEq,Prod.mk.injEq] at hx
     obtain⟨rfl,rfl,rfl⟩:=hx
     exact⟨_,hk⟩
    ·simp at hx
   ·simp at hx
  ·exact quv (cs:=r) h
def frzJ (H:Nat→Option SR) (j sz:Nat) (ys:List AV):List SV→Option (List AV)
 | []=>some []
 |c::r=>(match (match c with
   | .tp k=>bif Nat.beq k j then some (.sl sz ys none) else frz H (.tp k)
   |c=>frz H c),frzJ H j sz ys r with
  |some x,some l=>some (x::l)
  | _,_=>none)
theorem qxn {S:List AObj} {ρ : Nat→AV} {H:Nat→Option SR} (hS:SatF S ρ H) {j sz:Nat} {ys:List AV}:∀ (cs:List SV) (xs:List AV),frzJ H j sz ys cs=some xs→(SV.evs ρ cs).length=xs.length∧∀ (i:Nat) (x y:AV),(SV.evs ρ cs)[i]? = some x→xs[i]? = some y→Wk x y∨(x=tpAt (ρ j)∧y = .sl sz ys none)
 | [],xs,h=>by simp only [frzJ,Option.some.injEq] at h;subst h;exact⟨rfl,by simp [SV.evs]⟩
 |c::r,xs,h=>by
  simp only [frzJ] at h
  split at h
  ·rename_i x l h1 h2
   simp only [Option.some.injEq] at h
   subst h
   obtain⟨g1,g2⟩:=qxn hS r l h2
   refine⟨by simp [SV.evs,g1],fun i a b ha hb=>?_⟩
   cases i with
   |zero=>
    simp only [SV.evs,List.getElem?_cons_zero,Option.some.injEq] at ha hb
    subst ha
    subst hb
    split at h1
    ·rename_i k
     cases hkj:Nat.beq k j with
     |true=>
      rw [hkj] at h1
      simp only [cond_true,Option.some.injEq] at h1
      rw [Nat.eq_of_beq_eq_true hkj]
      exact .inr ⟨rfl,h1.symm⟩
     |false=>
      rw [hkj] at h1
      exact .inl (qe5 hS _ _ h1)
    ·exact .inl (qe5 hS _ _ h1)
   |succ i=>exact g2 i a b (by simpa [SV.evs] using ha) (by simpa using hb)
  ·simp at h
def pubK (k:Conf→Prop):List ResultVar→Conf→Prop
 | [],C=>k C
 | .tmp t::r,C=>(match lkS C.sl t with
  |some (.bx b 0)=>(match hpF C.hp b with
   |some (.cells _ cs)=>(match qn9 (hpF C.hp) cs with
    |some (j,sz,ys)=>(match frzJ (hpF C.hp) j sz ys cs with
     |some xs=>pubK k r ⟨(t,.a (.pp xs))::C.sl,(j,none)::(b,none)::C.hp,C.nx⟩
     |none=>pubK k r C)
    |none=>(match frzs (hpF C.hp) cs with
     |some xs=>pubK k r ⟨(t,.a (.pp xs))::C.sl,(b,none)::C.hp,C.nx⟩
     |none=>pubK k r C))
   | _=>pubK k r C)
  |some (.tp b)=>(match hpF C.hp b with
   |some (.own sz _ ys)=>pubK k r ⟨(t,.a (.sl sz ys none))::C.sl,(b,none)::C.hp,C.nx⟩
   | _=>pubK k r C)
  | _=>pubK k r C)
 | _::r,C=>pubK k r C
theorem SatR.drop {S0:List AObj} {F:Nat→Prop} {C:Conf} {ρ t:Nat→AV} {S:List AObj} (h:SatR S0 F C ρ t S) {b o:Nat} {q:SR} (hb:hpF C.hp b=some q) (ho:∀ o',qy (ρ b)=some o'→o'=o) (hd:qy (ρ b)=some o∨S.set o .dead=S) :
  SatR S0 F ⟨C.sl,(b,none)::C.hp,C.nx⟩ ρ t (S.set o .dead):=by
 have hget:∀ k r,hpF ((b,none)::C.hp) k=some r→k≠b∧hpF C.hp k=some r:=fun k r hk=>by
  unfold hpF at hk ⊢
  simp only [lkS] at hk
  by_cases e:b=k
  ·subst e;simp at hk
  ·rw [zp e] at hk
   exact⟨fun h=>e h.symm,hk⟩
 rcases hd with hd|hd
 ·refine⟨h.sl,⟨fun k r hk=>?_,fun k k' r r' hne hk hk'=>h.hp.sep k k' r r' hne (hget k r hk).2 (hget k' r' hk').2⟩,fun k r hk=>h.own k r (hget k r hk).2,fun j hj hF=>?_,by simpa using h.len,h.wsl,fun k r hk=>h.whp k r (hget k r hk).2⟩
  ·obtain⟨hne,hk⟩:=hget k r hk
   refine SR.ok_of (f:=fun _=>true) (SR.all_mono (fun _ _=>rfl) r (h.whp k r hk).2) (fun _ _=>rfl) (h.hp.ok k r hk) fun j hj=>?_
   have:o≠j:=fun e=>h.hp.sep b k _ r (fun e=>hne e.symm) hb hk o hd (e▸hj)
   rw [List.getElem?_set_ne this]
  ·have:o≠j:=fun e=>by
    rcases h.own b _ hb o hd with g|g
    ·omega
    ·exact hF (e▸g)
   rw [List.getElem?_set_ne this]
   exact h.low j hj hF
 ·rw [hd]
  exact⟨h.sl,⟨fun k r hk=>h.hp.ok k r (hget k r hk).2,fun k k' r r' hne hk hk'=>h.hp.sep k k' r r' hne (hget k r hk).2 (hget k' r' hk').2⟩,fun k r hk=>h.own k r (hget k r hk).2,h.low,h.len,h.wsl,fun k r hk=>h.whp k r (hget k r hk).2⟩
theorem SatR.slot {S0:List AObj} {F:Nat→Prop} {C:Conf} {ρ t:Nat→AV} {S:List AObj} (h:SatR S0 F C ρ t S) (d:Nat) {y:AV}:SatR S0 F ⟨(d,.a y)::C.sl,C.hp,C.nx⟩ ρ (Av.put t d y) S:=by
 refine⟨fun x v hx=>?_,h.hp,h.own,h.low,h.len,fun x v hx=>?_,h.whp⟩
 ·simp only [lkS] at hx
  by_cases e:d=x
  ·subst e
   simp at hx
   subst hx
   exact wg _ _ _
  ·rw [zp e] at hx
   simp only [cond_false] at hx
   exact (xx _ _ _ _ (fun h=>e h.symm)).trans (h.sl x v hx)
 ·simp only [lkS] at hx
  by_cases e:d=x
  ·subst e
   simp at hx
   subst hx
   rfl
  ·rw [zp e] at hx
   exact h.wsl x v hx
theorem SatR.pub {S0:List AObj} {F:Nat→Prop} {C:Conf} {ρ t:Nat→AV} {S:List AObj} (h:SatR S0 F C ρ t S) {d b o:Nat} {T:TypeId} {cs:List SV} {xs:List AV} (hb:hpF C.hp b=some (.cells T cs)) (ho:qy (ρ b)=some o) :
  SatR S0 F ⟨(d,.a (.pp xs))::C.sl,(b,none)::C.hp,C.nx⟩ ρ (Av.put t d (.pp xs)) (S.set o .dead):=
 (h.drop hb (fun o' ho'=>by rw [ho] at ho';simpa using ho'.symm) (.inl ho)).slot d
theorem q7a {E:Env} {fn:Func} {R:AV→List AObj→Prop} {s:AS} {d:Nat} {x r:AV} (hi:s.t d=x) (hw:Wk x r) (h:ARet E fn R ⟨Av.put s.t d r,s.st,s.df⟩):ARet E fn R s:=
 ⟨fun B0 w0 G a w hL hI R2 hR=>h.run B0 w0 G a w hL ⟨hI.agree,hI.defers,hI.size,fun j y hy=>by
  have hj:=hI.tmps j y hy
  by_cases e:j=d
  ·subst e
   simp only [wg]
   rw [hi] at hj
   exact hw G y hj
  ·simp only
   rw [xx _ _ _ _ e]
   exact hj⟩ R2 hR⟩
theorem x8 {E:Env} {fn:Func} {R:AV→List AObj→Prop} {S0:List AObj} {F:Nat→Prop} {ρ : Nat→AV} {k:Conf→Prop} (hk:∀ C t S,k C→SatR S0 F C ρ t S→ARet E fn R ⟨t,S,[]⟩):∀ {l:List ResultVar} {C:Conf} {t:Nat→AV} {S:List AObj},pubK k l C→SatR S0 F C ρ t S→ARet E fn R ⟨t,S,[]⟩
 | [],C,t,S,h,hR=>hk C t S h hR
 | .cell _ _::r,C,t,S,h,hR=>x8 hk (l:=r) h hR
 | .tmp d::r,C,t,S,h,hR=>by
  simp only [pubK] at h
  split at h
  ·rename_i b hd
   split at h
   ·rename_i T cs hb
    obtain⟨o,v,e1,e2,e3⟩:=hR.hp.ok b _ hb
    have ht:=hR.sl d _ hd
    simp only [SV.ev,e1,bxAt] at ht
    split at h
    ·rename_i j sz ys hj
     split at h
     ·rename_i xs hx
      obtain⟨T2,hj⟩:=quv hj
      obtain⟨w1,w2⟩:=qxn hR.hp cs xs hx
      have hbj:b≠j:=fun e=>by subst e;rw [hb] at hj;simp at hj
      have hP:=hR.pub (d:=d) (xs:=xs) hb (by rw [e1];rfl)
      have hj2:hpF ((b,none)::C.hp) j=some (.own sz T2 ys):=by
       unfold hpF at hj ⊢
       simp only [lkS,zp hbj,cond_false]
       exact hj
      rcases hR.hp.ok j _ hj with⟨rfl,f1⟩ | ⟨o2,ver2,cap,pad,f1,f2,f3,f4,f5,f6⟩
      ·refine qs7 ht e2 (q6z w1 fun i x y hx hy=>?_) (x8 hk (l:=r) h ?_)
       ·rcases w2 i x y hx hy with g | ⟨g1,g2⟩
        ·exact g
        ·subst g1 g2
         unfold tpAt
         rw [f1.one]
         exact f1.wk sz
       ·have:=hP.drop (o:=S.length) hj2 (fun o' ho'=>by rw [f1.loc] at ho';simp at ho') (.inr (List.set_eq_of_length_le (by simp)))
        rwa [List.set_eq_of_length_le (by simp)] at this
      ·have hne:o≠o2:=fun e=>hR.hp.sep b j _ _ hbj hb hj o (by rw [e1];rfl) (by rw [f1,e];rfl)
       refine q06 ht e2 f2 hne f4 f5 w1 (fun i x y hx hy=>?_) (x8 hk (l:=r) h (hP.drop hj2 (fun o' ho'=>?_) (.inl (by rw [f1];rfl))))
       ·rcases w2 i x y hx hy with g | ⟨g1,g2⟩
        ·exact .inl g
        ·exact .inr ⟨by rw [g1,f1];rfl,g2⟩
       ·rw [f1] at ho'
        simpa [qy] using ho'.symm
     ·exact x8 hk (l:=r) h hR
    ·split at h
     ·rename_i xs hx
      obtain⟨w1,w2⟩:=qb6 hR.hp cs xs hx
      exact qs7 ht e2 (q6z w1 w2) (x8 hk (l:=r) h (hR.pub hb (by rw [e1];rfl)))
     ·exact x8 hk (l:=r) h hR
   ·exact x8 hk (l:=r) h hR
  ·rename_i b hd
   split at h
   ·rename_i sz T ys hb
    have ht:=hR.sl d _ hd
    have hok:=hR.hp.ok b _ hb
    simp only [SV.ev,qb0 hok] at ht
    rcases hok with⟨rfl,f1⟩ | ⟨o,ver,cap,pad,f1,f2,f3,f4,f5,f6⟩
    ·have hP:=hR.drop (o:=S.length) hb (fun o' ho'=>by rw [f1.loc] at ho';simp at ho') (.inr (List.set_eq_of_length_le (by simp)))
     rw [List.set_eq_of_length_le (by simp)] at hP
     exact q7a ht (f1.wk sz) (x8 hk (l:=r) h (hP.slot d))
    ·rw [f1] at ht
     have hP:=hR.drop (o:=o) hb (fun o' ho'=>by rw [f1] at ho';simpa [qy] using ho'.symm) (.inl (by rw [f1];rfl))
     exact q69 ht f2 f4 f5 (x8 hk (l:=r) h (hP.slot d))
   ·exact x8 hk (l:=r) h hR
  ·exact x8 hk (l:=r) h hR
def retP (P:Program) (fn:Func) (r0:AV) (e:Exit) (C:Conf):Prop:=
 match e with
 | .normal=>pubK (fun C=>ansW P fn C fun y=>Tl y r0) fn.results.toList C
 | .ret=>pubK (fun C=>ansW P fn C fun y=>Tl y r0) fn.results.toList C
 | _=>False
theorem qh3 {E:Env} {f:FuncId} {fn:Func} {c:Code} {args:List AV} {st:List AObj} {r0:AV} (vs:List SV) (hp:Pure r0) (hf:E.P.funcs[f]? = some fn) (hb:fn.body=some c) (hn:Nat.ble args.length fn.ntmps=true) (hv:∀ ρ,SV.evs ρ vs=args) (hc:okC ⟨zq 0 vs,[],0⟩=true)
  (h:∀ S0,numK 0 vs fun sl=>Sm E none fn.ntmps ⟨S0,fun _=>False,fun _=>zv,0,False⟩ c (retP E.P fn r0) ⟨sl,[],0⟩):qn E f args st fun r st'=>r=r0∧st'=st:=by
 simp only [qkf] at h
 refine zz hp (qx hf hb (Nat.le_of_ble_eq_true hn) ?_)
 have hst:SatC ⟨st++[],fun _=>False,fun _=>zv,0,False⟩ ⟨zq 0 vs,[],0⟩ ⟨argT args,st++[],[]⟩:=by
  refine⟨fun _=>zv,⟨nofun,List.nodup_nil,fun _ _=>rfl,Nat.le_refl _,nofun⟩,⟨fun d v hd=>?_,⟨fun k r hk=>?_,fun k k' r r' _ hk=>?_⟩,fun k r hk=>?_,fun _ _ _=>rfl,Nat.le_refl _,fun d v hd=>?_,fun k r hk=>?_⟩⟩
  ·obtain⟨j,h1,h2⟩:=qaw hd
   have:args[j]? = some (v.ev fun _=>zv):=by rw [← hv fun _=>zv,jl,List.getElem?_map,h2];rfl
   rw [h1,Nat.zero_add]
   simp only [argT,List.getD,this,Option.getD_some]
  ·simp [hpF,lkS] at hk
  ·simp [hpF,lkS] at hk
  ·simp [hpF,lkS] at hk
  ·simp only [okC,Bool.and_eq_true] at hc
   exact List.all_eq_true.1 hc.1 _ (jv hd)
  ·simp [hpF,lkS] at hk
 refine ((h (st++[])).run _ hst).mono fun e s' ⟨C',hq,hs'⟩=>?_
 obtain⟨t,S,df⟩:=s'
 obtain⟨ρ,hdf,hR⟩:=hs'
 simp only at hdf hR
 have fin:pubK (fun C=>ansW E.P fn C fun y=>Tl y r0) fn.results.toList C'→ARet E fn (fun r st2=>r=r0∧∃ ext,st2=st++ext) ⟨t,S,df⟩:=fun h=>by
  refine qeb hR (fun x hx=>hdf.dm x hx) hdf.nd fun S' hR'=>?_
  refine x8 (fun C t S h hR'=>?_) h hR'
  obtain⟨y,h1,h2⟩:=qxf hR' h
  refine qv rfl (yy h1 h2.ok) ⟨rfl,?_⟩
  have hl:=hR'.len
  rw [List.append_nil] at hl
  exact qhg hl fun k hk=>by
   have:=hR'.low k (by simpa using hk) (fun h=>h)
   rw [List.append_nil] at this
   exact this
 cases e with
 |normal=>exact fin hq
 |ret=>exact fin hq
 | _=>exact hq.elim
section
variable {E : Env} {N : Nat} {ops : Array Oper} {nx : Nat} {sl : List (Nat × SV)} {H : Nat → Option SR} {k : Ef → Prop} {d : Option Tmp} {T : TypeId} {p : String} {af : Array Edge}
theorem qbx {t e e':TypeId} {x y:Operand} {b sz i:Nat} {agg:Bool} {xs:List AV} {kd:IntKind} {v:SV} (hx:sval N sl x=some (.tp b)) (hH:H b=some (.own sz e xs)) (hy:sval N sl y=some v) (hv:x3 v=some (kd,(i:Int))) (he:elT (E.P.underlying t)=some e') (ht:tyOf E.P e'=some (sz,agg)) (hi:i<xs.length)
  (h:k ⟨.bx b (0+i * sz),[b],[],nx⟩):∃ e,Loc E N ops ⟨d,.indexAddr t x y,T,p,af,none⟩ nx sl H e∧k e:=by
 refine⟨_,we (v:=.bx b (0+i * sz)) fun df rd K rest ρ t' S hs hS hk=>?_,h⟩
 rcases hS.ok b _ ((vn b).trans hH) with⟨rfl,_⟩ | ⟨o,ver,cap,pad,e1,e2,_⟩
 ·simp at hi
 ·refine qd5 (o:=o) (ver:=ver) (off:=0) (len:=xs.length) (cp:=cap+1) ((qo hs hx).trans (by simp [SV.ev,e1,tpAt,AV.one])) ((qo hs hy).trans (wd hv ρ)) (vm he) ht rfl hi ?_
  simpa only [SV.ev,e1,bxAt] using hk
theorem qqr {sz i j sz':Nat} {agg:Bool} {xs pad:List AV} {z r:AV} (hw:∀ x∈xs,x.cells.length=sz) (hz:xs[i]? = some z) (hr:jp sz' agg j z.cells=some r) (hj:j+sz'≤sz) (h1:agg=false→0<sz'):jp sz' agg (0+i * sz+j) (flat xs++pad)=some r:=by
 have hg:=qx9 (pad:=pad) hw hz
 have hzl:=hw z (List.mem_of_getElem? hz)
 have hlen:i * sz+sz≤(flat xs++pad).length:=by
  have:=congrArg List.length hg
  simp only [List.length_take,List.length_drop] at this
  have h1:i * sz≤xs.length * sz:=Nat.mul_le_mul_right _ (by have:=lt_of_getElem? hz;omega)
  have h2:(flat xs++pad).length=xs.length * sz+pad.length:=by rw [List.length_append,zo hw]
  omega
 unfold jp at hr ⊢
 rw [Nat.zero_add]
 cases agg with
 |true=>
  simp only [cond_true] at hr ⊢
  have b1:Nat.ble (i * sz+j+sz') (flat xs++pad).length=true:=Nat.ble_eq_true_of_le (by omega)
  have b2:Nat.ble (j+sz') z.cells.length=true:=Nat.ble_eq_true_of_le (by omega)
  rw [b2] at hr
  rw [b1]
  simp only [cond_true] at hr ⊢
  rw [← hr,← hg]
  congr 2
  apply List.ext_getElem?
  intro q
  simp only [List.getElem?_take,List.getElem?_drop]
  by_cases hq:q<sz'
  ·rw [if_pos hq,if_pos hq,if_pos (by omega)]
   congr 1
   omega
  ·rw [if_neg hq,if_neg hq]
 |false=>
  simp only [cond_false] at hr ⊢
  have:=h1 rfl
  rw [← hr,← hg,List.getElem?_take_of_lt (by omega),List.getElem?_drop]
theorem qfd {t e:TypeId} {x:Operand} {b off sz i j sz':Nat} {agg:Bool} {xs:List AV} {z r:AV} (hx:sval N sl x=some (.bx b off)) (hH:H b=some (.own sz e xs)) (ht:tyOf E.P t=some (sz',agg)) (ho:off=0+i * sz+j) (hz:xs[i]? = some z) (hr:jp sz' agg j z.cells=some r) (hj:(Nat.ble (j+sz') sz && (agg ||Nat.blt 0 sz'))=true)
  (h:k ⟨nf r,[b],[],nx⟩):∃ e,Loc E N ops ⟨d,.load t x,T,p,af,none⟩ nx sl H e∧k e:=by
 simp only [Bool.and_eq_true,Bool.or_eq_true] at hj
 refine⟨_,we (v:=nf r) fun df rd K rest ρ t' S hs hS hk=>?_,h⟩
 rcases hS.ok b _ ((vn b).trans hH) with⟨rfl,_⟩ | ⟨o,ver,cap,pad,e1,e2,e3,e4,_⟩
 ·simp at hz
 ·subst ho
  refine ko (o:=o) (ver:=ver) (off:=0+i * sz+j) ((qo hs hx).trans (by simp only [SV.ev,e1,bxAt])) e2 ht (qqr e4 hz hr (Nat.le_of_ble_eq_true hj.1) fun e=>?_) (by rw [← qhv ρ r];exact hk)
  rcases hj.2 with h|h
  ·rw [e] at h;simp at h
  ·exact ju h
theorem qom (A Z B us:List AV) (j:Nat) (h:j+us.length≤Z.length):zh (A++Z++B) (A.length+j) us=A++zh Z j us++B:=by
 unfold zh
 rw [List.append_assoc A Z B,List.take_length_add_append,List.take_append_of_le_length (by omega),Nat.add_assoc,List.drop_length_add_append,List.drop_append_of_le_length (by omega)]
 simp
theorem qzh {sz i j:Nat} {xs pad us:List AV} {z z':AV} (hw:∀ x∈xs,x.cells.length=sz) (hz:xs[i]? = some z) (hz':z'.cells=zh z.cells j us) (hj:j+us.length≤sz):zh (flat xs++pad) (0+i * sz+j) us=flat (xs.set i z')++pad∧z'.cells.length=sz:=by
 have hzl:=hw z (List.mem_of_getElem? hz)
 have hl:z'.cells.length=sz:=by rw [hz'];simp [zh];omega
 have hi:=lt_of_getElem? hz
 refine⟨?_,hl⟩
 rw [← qtv hw hl hi]
 have hg:=qx9 (pad:=pad) hw hz
 have hA:((flat xs++pad).take (i * sz)).length=i * sz:=by
  have h1:i * sz≤xs.length * sz:=Nat.mul_le_mul_right _ (by omega)
  rw [List.length_take,List.length_append,zo hw]
  omega
 generalize flat xs++pad=cs at hg hA
 have hcs:cs=cs.take (i * sz)++z.cells++(cs.drop (i * sz)).drop sz:=by
  rw [← hg,List.append_assoc,List.take_append_drop,List.take_append_drop]
 have e1:=qom (cs.take (i * sz)) z.cells ((cs.drop (i * sz)).drop sz) us j (by omega)
 have e2:=qom (cs.take (i * sz)) z.cells ((cs.drop (i * sz)).drop sz) z'.cells 0 (by omega)
 rw [hA,← hcs] at e1 e2
 have e3:zh z.cells 0 z'.cells=z'.cells:=by
  unfold zh
  rw [Nat.zero_add,List.drop_eq_nil_of_le (by omega)]
  simp
 rw [Nat.add_zero,e3] at e2
 rw [Nat.zero_add,e1,e2,hz']
theorem qf6 {t e:TypeId} {x y:Operand} {b off sz i j sz':Nat} {agg:Bool} {xs:List AV} {z z' u:AV} {v:SV} (hx:sval N sl x=some (.bx b off)) (hy:sval N sl y=some v) (hv:∀ ρ,v.ev ρ = u) (hH:H b=some (.own sz e xs)) (ht:tyOf E.P t=some (sz',agg)) (ho:off=0+i * sz+j) (hz:xs[i]? = some z) (hz':z'.cells=zh z.cells j u.cells)
  (hj:(u.okc && Nat.beq u.cells.length sz' && jq u.cells && Nat.ble (j+sz') sz)=true) (h:k ⟨.a (.v undef),[b],[(b,some (.own sz e (xs.set i z')))],nx⟩):∃ e,Loc E N ops ⟨d,.store t x y,T,p,af,none⟩ nx sl H e∧k e:=by
 simp only [Bool.and_eq_true] at hj
 obtain⟨⟨⟨j1,j2⟩,j3⟩,j4⟩:=hj
 have j2:=Nat.eq_of_beq_eq_true j2
 have j4:=Nat.le_of_ble_eq_true j4
 refine⟨_,fun df rd K rest ρ t' S hs hS hk=>?_,h⟩
 have hok:=hS.ok b _ ((vn b).trans hH)
 rcases hok with⟨rfl,_⟩ | ⟨o,ver,cap,pad,e1,e2,e3,e4,e5,e6⟩
 ·simp at hz
 ·subst ho
  obtain⟨q1,q2⟩:=qzh (pad:=pad) e4 hz hz' (by omega)
  have hlt:=lt_of_getElem? hz
  refine qea (o:=o) (ver:=ver) (off:=0+i * sz+j) (xs:=u.cells) ((qo hs hx).trans (by simp only [SV.ev,e1,bxAt])) ((qo hs hy).trans (hv ρ)) e2 ht j1 rfl j2 (by simpa [jq] using j3) (by
   have h1:i * sz+sz≤xs.length * sz:=by rw [← Nat.succ_mul];exact Nat.mul_le_mul_right _ hlt
   rw [List.length_append,zo e4]
   omega) ?_
  rw [q1]
  have hw':∀ y∈xs.set i z',y.cells.length=sz:=fun y hy=>by
   rcases List.mem_or_eq_of_mem_set hy with h|rfl
   ·exact e4 y h
   ·exact q2
  have key:∀ k r,chF [(b,some (.own sz e (xs.set i z')))] (resF [b] H) k=some r→k=b∧r = .own sz e (xs.set i z'):=fun k r hk=>by
   simp only [chF,lkS] at hk
   by_cases e:b=k
   ·subst e
    have:Nat.beq b b=true:=by simp
    rw [this] at hk
    simp only [cond_true,Option.some.injEq] at hk
    exact⟨rfl,hk.symm⟩
   ·rw [zp e] at hk
    have:=(kh hk).1
    simp only [memN,List.any_cons,List.any_nil,Bool.or_false] at this
    exact absurd (Nat.eq_of_beq_eq_true this).symm e
  refine hk ρ _ ⟨fun _ _=>rfl,⟨fun k r hk=>?_,fun k k' r r' hne g1 g2=>?_⟩,by simp,fun j hj hne=>?_,fun k r hk o' ho'=>?_⟩
  ·obtain⟨rfl,rfl⟩:=key k r hk
   refine .inr ⟨o,ver,cap,pad,by rw [e1,List.length_set],xc e2,?_,hw',by rw [List.length_set];exact e5,e6⟩
   rw [List.length_append,zo hw',List.length_set,← zo e4,← List.length_append]
   exact e3
  ·exact absurd ((key k r g1).1.trans (key k' r' g2).1.symm) hne
  ·have:=hne b _ ((vn b).trans hH)
   rw [e1] at this
   exact List.getElem?_set_ne (fun e=>this (by rw [e];rfl))
  ·obtain⟨rfl,rfl⟩:=key k r hk
   exact .inr ⟨k,_,(vn k).trans hH,ho'⟩
theorem qkh {b:Nat} {q:SR}:∀ k r,chF [(b,none),(nx,some q)] (resF [b] H) k=some r→k=nx∧r=q:=fun k r hk=>by
 simp only [chF,lkS] at hk
 by_cases e:b=k
 ·subst e
  simp at hk
 ·rw [zp e] at hk
  simp only [cond_false] at hk
  by_cases e2:nx=k
  ·subst e2
   simp at hk
   exact⟨rfl,hk.symm⟩
  ·rw [zp e2] at hk
   simp only [cond_false] at hk
   have:=(kh hk).1
   simp only [memN,List.any_cons,List.any_nil,Bool.or_false] at this
   exact absurd (Nat.eq_of_beq_eq_true this).symm e
theorem qef {x y:Operand} {t u e:TypeId} {b sz bytes:Nat} {xs ys:List AV} {vy:SV} (hx:sval N sl x=some (.tp b)) (hH:H b=some (.own sz e xs)) (hy:sval N sl y=some vy) (hel:qfw H sz vy=some (ys,[])) (ht:elT (E.P.underlying t)=some e) (hu:elT (E.P.underlying u)=some e) (hb:qnd E.P e=some (sz,bytes))
  (hn:(Nat.blt 0 bytes && Nat.ble bytes 140737 && !Nat.beq b nx)=true) (h1:xs.length+ys.length≤1000000000) (hone:jq (flat ys)=true)
  (h:k ⟨.tp nx,[b],[(b,none),(nx,some (.own sz e (xs++ys)))],nx+1⟩):∃ e,Loc E N ops ⟨d,.call ⟨.builtin .append,#[x,y],#[t,u]⟩,T,p,af,none⟩ nx sl H e∧k e:=by
 simp only [Bool.and_eq_true] at hn
 have hbp:=ju hn.1.1
 have hbl:=Nat.le_of_ble_eq_true hn.1.2
 refine⟨_,fun df rd K rest ρ t' S hs hS hk=>?_,h⟩
 have hw:∀ (G:Gh) (v:Value),Rel G (qf N ⟨t',S,df⟩ y) v→Rel G (.sl sz ys none) v:=by
  rw [qo hs hy]
  exact qbu (S:=S) hel ⟨fun k r hk=>by rw [qax] at hk;simp at hk,fun k k' r r' _ hk=>by rw [qax] at hk;simp at hk⟩
 have hok:=hS.ok b _ ((vn b).trans hH)
 have hev:qf N ⟨t',S,df⟩ x = ρ b:=(qo hs hx).trans (qb0 hok)
 have hmul:(xs.length+ys.length) * bytes≤140737488355328:=Nat.le_trans (Nat.mul_le_mul h1 hbl) (by decide)
 have fin:∀ (c:AV) (S':List AObj),OwnS S' sz e (xs++ys) c→S.length≤S'.length→(∀ j,j<S.length→qy (ρ b)≠some j→S'[j]? = S[j]?)→(∀ o,qy c=some o→S.length≤o∨qy (ρ b)=some o)→AOps E rd N ops rest K (AS.put ⟨t',S',df⟩ d c):=fun c S' g1 g2 g3 g4=>by
  have:=hk (upd ρ nx c) S' ⟨fun k hk=>vr _ _ (by simp only at hk;omega),⟨fun k r hk=>?_,fun k k' r r' hne q1 q2=>absurd ((qkh k r q1).1.trans (qkh k' r' q2).1.symm) hne⟩,g2,fun j hj hne=>g3 j hj (hne b _ ((vn b).trans hH)),fun k r hk o ho=>?_⟩
  ·simpa only [SV.ev,z8,qb0 g1] using this
  ·obtain⟨rfl,rfl⟩:=qkh k r hk
   rw [z8]
   exact g1
  ·obtain⟨rfl,rfl⟩:=qkh k r hk
   rw [z8] at ho
   exact (g4 o ho).imp_right fun h=>⟨b,_,(vn b).trans hH,h⟩
 by_cases hy0:ys=[]
 ·subst hy0
  have hc:∀ G v,Rel G (ρ b) v→∃ b n cp,v = .slice b n cp∧n≤cp:=fun G v hv=>by
   rcases hok with⟨_,e1⟩ | ⟨o,ver,cap,pad,e1,e2,e3,e4,e5,e6⟩
   ·obtain⟨base,rfl⟩:=e1.val G v hv
    exact⟨_,_,_,rfl,Nat.le_refl _⟩
   ·rw [e1] at hv
    cases hv with
    |os=>exact⟨_,_,_,rfl,e5⟩
  exact qix hev hc hw (vm ht) (vm hu) (qcz hb) (fin (ρ b) S (by rw [List.append_nil];exact hok) (Nat.le_refl _) (fun _ _ _=>rfl) fun o ho=>.inr ho)
 ·rcases hok with⟨rfl,e1⟩ | ⟨o,ver,cap,pad,e1,e2,e3,e4,e5,e6⟩
  ·refine qbr (by rw [hev];exact e1.val) hw (vm ht) (vm hu) (qcz hb) hone hy0 (by simp only [maxLen];simp only [List.length_nil] at h1;omega) (by simpa using hmul) fun cap pad q1 q2 q3 q4=>?_
   exact fin _ _ (.inr ⟨S.length,0,cap,pad,rfl,wl,q1,q2,q3,q4⟩) (by simp) (fun j hj _=>List.getElem?_append_left hj) fun o ho=>.inl (by simp only [qy,Option.some.injEq] at ho;omega)
  ·refine qin (o:=o) (hev.trans e1) hw (.os ver (cap+1) pad e3 e4 e5 e6) e2 (vm ht) (vm hu) (qcz hb) hone (by simp only [maxLen];omega) hmul fun a' ob' hV=>?_
   rcases qvs hV with⟨q,_,_⟩ | ⟨ver',cap',pad',rfl,rfl,q1,q2,q3,q4⟩
   ·simp [hy0] at q
   ·obtain⟨cap',rfl⟩:∃ c,cap'=c+1:=⟨cap' - 1,by
     have:0<ys.length:=List.length_pos_iff.2 hy0
     simp at q3
     omega⟩
    refine fin _ _ (.inr ⟨o,ver',cap',pad',rfl,xc e2,q1,q2,q3,q4⟩) (by simp) (fun j hj hne=>List.getElem?_set_ne fun e=>hne (by rw [e1,e];rfl)) fun o' ho'=>.inr (by rw [e1];exact ho')
structure OwnR (sz:Nat) (T:TypeId) (ys:List AV) (st:List AObj) (c r:AV) (st':List AObj):Prop where
 ok:OwnS st' sz T ys r
 len:st.length≤st'.length
 same:∀ j,j<st.length→qy c≠some j→st'[j]? = st[j]?
 loc:∀ o,qy r=some o→st.length≤o∨qy c=some o
theorem qpi {S:List AObj} {sz:Nat} {T:TypeId} {xs:List AV} {c:AV} (h:OwnS S sz T xs c):tpAt c=c:=qb0 h
theorem qlo {f:FuncId} {sz:Nat} {T0:TypeId} {xs ys:List AV} (args:List AV) (hc:okC ⟨zq 0 (.tp 0::args.map .a),[(0,some (.own sz T0 xs))],1⟩=true)
  (h:∀ st c,OwnS st sz T0 xs c→qn E f (c::args) st fun r st'=>OwnR sz T0 ys st c r st'):jo E f (.tp 0::args.map .a) 1 (hpF [(0,some (.own sz T0 xs))]) ⟨.tp 1,je [(0,some (.own sz T0 xs))],[(1,some (.own sz T0 ys))]++j6 [(0,some (.own sz T0 xs))],2⟩:=fun ρ S hS=>by
 simp only [kw] at hS
 have hok:OwnS S sz T0 xs (ρ 0):=hS.ok 0 _ rfl
 have e:SV.evs ρ (.tp 0::args.map .a) = ρ 0::args:=by
  simp only [SV.evs,SV.ev,qpi hok,jl,List.map_map]
  congr 1
  conv=>rhs;rw [← List.map_id args]
  exact List.map_congr_left fun x _=>rfl
 rw [e]
 refine (h S (ρ 0) hok).mono fun r S' hr=>⟨upd ρ 1 r,?_,?_⟩
 ·simp only [SV.ev,z8,qpi hr.ok]
 ·have key:∀ k q,hpF [(1,some (.own sz T0 ys))] k=some q→k=1∧q = .own sz T0 ys:=fun k q hk=>by
   have:=vu hk
   simp only [lkS] at this
   cases hb:Nat.beq 1 k with
   |true=>
    rw [hb] at this
    simp only [cond_true,Option.some.injEq] at this
    exact⟨(Nat.eq_of_beq_eq_true hb).symm,this.symm⟩
   |false=>rw [hb] at this;simp at this
  refine⟨fun k hk=>vr _ _ (by simp only at hk;omega),?_,hr.len,fun j hj hn=>?_,fun k q hk o ho=>?_⟩
  ·simp only [kw,qb4]
   refine⟨fun k q hk=>?_,fun k k' q q' hne h1 h2=>absurd ((key k q h1).1.trans (key k' q' h2).1.symm) hne⟩
   obtain⟨rfl,rfl⟩:=key k q hk
   rw [z8]
   exact hr.ok
  ·simp only [kw] at hn
   exact hr.same j hj (hn 0 _ rfl)
  ·simp only [kw,qb4] at hk ⊢
   obtain⟨rfl,rfl⟩:=key k q hk
   rw [z8] at ho
   rcases hr.loc o ho with h|h
   ·exact .inl h
   ·exact .inr ⟨0,_,rfl,h⟩
theorem qwb {f:FuncId} {sz:Nat} {T0:TypeId} {ys:List AV} {nx:Nat} {H:Nat→Option SR} (args:List AV) (vs:List SV) (hv:∀ ρ,SV.evs ρ vs=args)
  (h:∀ st,qn E f args st fun r st'=>OwnR sz T0 ys st (.v undef) r st'):jo E f vs nx H ⟨.tp nx,[],[(nx,some (.own sz T0 ys))],nx+1⟩:=fun ρ S hS=>by
 rw [hv]
 refine (h S).mono fun r S' hr=>⟨upd ρ nx r,?_,?_⟩
 ·simp only [SV.ev,z8,qpi hr.ok]
 ·have key:∀ k q,chF [(nx,some (SR.own sz T0 ys))] (resF [] H) k=some q→k=nx∧q = .own sz T0 ys:=fun k q hk=>by
   simp only [chF,lkS] at hk
   cases hb:Nat.beq nx k with
   |true=>
    rw [hb] at hk
    simp only [cond_true,Option.some.injEq] at hk
    exact⟨(Nat.eq_of_beq_eq_true hb).symm,hk.symm⟩
   |false=>
    rw [hb] at hk
    simp [resF,memN] at hk
  refine⟨fun k hk=>vr _ _ (by simp only at hk;omega),⟨fun k q hk=>?_,fun k k' q q' hne h1 h2=>absurd ((key k q h1).1.trans (key k' q' h2).1.symm) hne⟩,hr.len,fun j hj _=>hr.same j hj (by simp [qy]),fun k q hk o ho=>?_⟩
  ·obtain⟨rfl,rfl⟩:=key k q hk
   rw [z8]
   exact hr.ok
  ·obtain⟨rfl,rfl⟩:=key k q hk
   rw [z8] at ho
   rcases hr.loc o ho with h|h
   ·exact .inl h
   ·simp [qy] at h
end
end Go.Av
namespace Go.Proofs.YtejoahlpbckbeaaGreatDoor
open Go Go.Av Go.RowKit Go.Proofs Go.Pl
def accK (l:qc) (r:List qc) (k:Nat):List qc:=wu 32 (w7 l)::(r.take k).map fun s=>wu 46 (s.drop 1)
theorem q0w {l:qc} {r:List qc} {k:Nat} {a:qc} (h:r[k]? = some a):(accK l r (k+1)).map (fun x=>Sv x)=(accK l r k).map (fun x=>Sv x)++[Sv (wu 46 (a.drop 1))]:=by
 obtain⟨hlt,rfl⟩:=List.getElem?_eq_some_iff.1 h
 unfold accK
 rw [← List.take_append_getElem hlt]
 simp only [List.map_append,List.map_cons,List.map_nil,List.cons_append]
set_option maxHeartbeats 4000000 in
theorem qir (ls:List qc) (st:List AObj) (hB:LsB ls):qn E 208 [Ss ls] st fun r st'=>r=qc9 ls∧st'=st:=by
 refine jc [.a (Ss ls)] (qvr _) Tryz.func208 rfl rfl (fun _=>rfl) rfl fun S0=>?_
 have hL:=hB.len
 have hml:(ls.map fun x=>Sv x).length=ls.length:=by simp
 cases ls with
 |nil=>
  apply qe [2]
  repeat' (first|apply And.intro|(intro h;try exact cDd)|exact cSd|apply qd [2]|refine exr ?_|refine qg ?_)
 |cons l r=>
  have hl:=hB.val l (by simp)
  simp only [List.length_cons] at hL hml
  have hget0:((l::r).map fun x=>Sv x)[0]? = some (Sv l):=rfl
  have hrm:(r.map fun x=>Sv x).length=r.length:=by simp
  by_cases h4:qm l=4
  ·have hkf:=qjg.1 h4
   have hcu:=fun st=>qzq l st (by omega) h4
   have ht1:=fun st=>qx8 (w7 l) 32 st
   apply qe [2,31]
   repeat' (first|apply And.intro|(intro h;try exact cDd)|(refine Exists.intro (0) ⟨by omega,_,hget0,?_⟩)|exact⟨Tryz.call248⟩|refine cpe hcu ?_|exact⟨Tryz.call63⟩|refine cpe ht1 ?_|exact cSd|apply qd [2,31]|refine exr ?_|refine qg ?_)
   refine vv (X:=Nat) (fun k=>⟨[(2,.bx 0 0),(4,.s (ji l)),(7,.tp 1),(33,.a (.sl 1 (r.map fun x=>Sv x) none)),(34,.i (r.map fun x=>Sv x).length),(35,.i k)],[(0,some (.cells 130 [.s [],.s []])),(1,some (.tip 1 9 ((accK l r k).map fun x=>Sv x)))],2⟩) (fun k=>k≤r.length∧∀ x∈r.take k,qm x=3) (fun k=>r.length - k) 0 ⟨by omega,by simp⟩ ?_ ?_
   ·skip
    repeat' (first|apply And.intro|(intro h;try exact cDd)|exact cSd|apply qd []|refine exr ?_|refine qg ?_)
   ·rintro k ⟨hk,h3⟩
    have hacl:((accK l r k).map fun x=>Sv x).length=k+1:=by unfold accK;simp;omega
    by_cases hlt:k<r.length
    ·obtain⟨a,ha⟩:∃ a,r[k]? = some a:=⟨_,List.getElem?_eq_getElem hlt⟩
     have hget:(r.map fun x=>Sv x)[k]? = some (Sv a):=by simp [ha]
     have hav:=hB.val a (by simp [List.mem_of_getElem? ha])
     have hka:=fun st=>qjf a st (by omega)
     have ht2:=fun st=>qx8 (a.drop 1) 46 st
     have hnx:=q0w (l:=l) ha
     by_cases hk3:qm a=3
     ·obtain⟨h2,_⟩:=qpd hk3
      simp only [hk3] at hka
      have htk:r.take (k+1)=r.take k++[a]:=by
       obtain⟨_,rfl⟩:=List.getElem?_eq_some_iff.1 ha
       rw [List.take_append_getElem]
      apply qe []
      repeat' (first|apply And.intro|(intro h;try exact cDd)|(refine Exists.intro (k) ⟨by omega,_,hget,?_⟩)|exact⟨Tryz.call161⟩|refine cpe hka ?_|exact⟨Tryz.call63⟩|refine cpe ht2 ?_|(refine Exists.intro (k+1) ⟨⟨by omega,by rw [htk];exact ql3 h3 hk3⟩,by omega,?_⟩)|exact cSd|apply qd []|refine exr ?_|refine qg ?_)
      all_goals first|(rw [hnx];done)|(rw [hnx];simp [SV.evs,SV.ev];done)|(simp only [List.length_cons,List.length_nil];omega)
     ·have hno:ja (l::r)=(([],[]),2):=if_neg fun h=>hk3 (h.2.2 a (List.mem_of_getElem? ha))
      unfold qc9
      rw [hno]
      apply qe []
      repeat' (first|apply And.intro|(intro h;try exact cDd)|(refine Exists.intro (k) ⟨by omega,_,hget,?_⟩)|exact⟨Tryz.call161⟩|refine cpe hka ?_|exact absurd (by assumption) hk3|exact cSd|apply qd []|refine exr ?_|refine qg ?_)
    ·rw [List.take_of_length_le (by omega)] at h3
     have hkr:k=r.length:=by omega
     subst hkr
     have hok:qmg (l::r):=⟨by simp,h4,h3⟩
     have hjl:=qvj r fun s hs=>hB.val s (by simp [hs])
     have hj:=q2h (wu 32 (w7 l)) r
     have hjv:Lib.join (accK l r r.length) [10]=xz l r:=by unfold accK;rw [List.take_length];exact hj
     have htr:(wu 32 (w7 l)).length≤l.length:=by unfold wu w7;split <;> simp <;> omega
     have hvl:(xz l r).length≤140737488355328:=by
      unfold xz
      rw [List.length_append]
      omega
     have hjn:=fun tip st=>q8f (accK l r r.length) tip [10] (xz l r) st hjv (by rw [← List.length_map (f:=fun x=>Sv x),hacl];omega) hvl
     have hkl:(ji l).length<4294967281:=by have:=hkf.2.2.2.1;omega
     have hun:ja (l::r)=if 1000<(xz l r).length then (([],[]),6) else ((ji l,xz l r),0):=if_pos hok
     have hjn0:=hjn none
     unfold qc9
     by_cases hv:1000<(xz l r).length
     ·have hcf:ka (ji l,xz l r)=6:=(if_neg (by simpa using hkf.2.2)).trans (if_pos hv)
      have hck:=fun st=>qe4 (ji l,xz l r) st hkl (by rw [hcf];decide)
      rw [hcf] at hck
      rw [hun,if_pos hv]
      apply qe [10]
      repeat' (first|apply And.intro|(intro h;try exact cDd)|exact⟨Tryz.call123⟩|refine cpe hjn0 ?_|exact⟨Tryz.call173⟩|refine cpe hck ?_|exact cSd|apply qd [10]|refine exr ?_|refine qg ?_)
     ·have hcf:ka (ji l,xz l r)=0:=(if_neg (by simpa using hkf.2.2)).trans (if_neg hv)
      have hck:=fun st=>qe3 (ji l,xz l r) st hkl hcf
      rw [hun,if_neg hv]
      apply qe [10]
      repeat' (first|apply And.intro|(intro h;try exact cDd)|exact⟨Tryz.call123⟩|refine cpe hjn0 ?_|exact⟨Tryz.call173⟩|refine cpe hck ?_|exact cSd|apply qd [10]|refine exr ?_|refine qg ?_)
  ·have hno:ja (l::r)=(([],[]),2):=if_neg fun h=>h4 h.2.1
   have hcu:=fun st=>qws l st (by omega) h4
   unfold qc9
   rw [hno]
   apply qe [2]
   repeat' (first|apply And.intro|(intro h;try exact cDd)|(refine Exists.intro (0) ⟨by omega,_,hget0,?_⟩)|exact⟨Tryz.call248⟩|refine cpe hcu ?_|exact cSd|apply qd [2]|refine exr ?_|refine qg ?_)
end Go.Proofs.YtejoahlpbckbeaaGreatDoor
namespace Go.Av
open Go Go.RowKit
structure DP where
 q:Prop
 h:Decidable q
def eqC1 (u:Option TypeDesc) (x y:SV):Option DP:=
 match u with
 |some (.int _)=>(match x3 x,x3 y with
  |some (k,m),some (k',n)=>bif decide (k=k') then some ⟨m=n,inferInstance⟩ else none
  | _,_=>none)
 |some .string=>(match x,y with
  | .s m,.s n=>some ⟨m=n,inferInstance⟩
  | _,_=>none)
 |some .bool=>(match qgx x,qgx y with
  |some a,some b=>some ⟨a=b,inferInstance⟩
  | _,_=>none)
 | _=>none
def eqCs (P:Program):Nat→List Field→List SV→List SV→Option DP
 | _,[],[],[]=>some ⟨True,inferInstance⟩
 | i, f :: r, x :: xs, y :: ys => bif f.name != "_" && Nat.beq f.offset i then (match eqC1 (P.underlying f.type) x y, eqCs P (i + 1) r xs ys with
  |some a,some b=>some ⟨a.q∧b.q,@instDecidableAnd _ _ a.h b.h⟩
  | _,_=>none) else none
 | _,_,_,_=>none
def agOf:SV→Option (List SV)
 | .ag cs=>some cs
 | .a (.ag xs)=>some (nfs xs)
 | _=>none
theorem qxe {v:SV} {cs:List SV} (h:agOf v=some cs) (ρ : Nat→AV):v.ev ρ = .ag (SV.evs ρ cs):=by
 unfold agOf at h
 split at h
 ·simp only [Option.some.injEq] at h;subst h;rfl
 ·simp only [Option.some.injEq] at h;subst h;simp only [SV.ev,qdu]
 ·simp at h
def quh:TypeDesc→Bool
 | .struct _=>false
 | .array _ _=>false
 | _=>true
theorem qvc {P:Program} {t:TypeId} {u:TypeDesc} {cs:Array Value} {off:Nat} {a:Value} (w:World) (hu:P.underlying t=some u) (hs:quh u=true) (h:cs[off]? = some a):(part t cs off).run P w = .ok a w:=by
 unfold part isAgg
 cases u <;> simp [run_underlying hu,h,quh] at hs ⊢
theorem q4w {P:Program} {G:Gh} {ρ : Nat→AV} {t:TypeId} {x y:SV} {a b:Value} {q:DP} {d:Nat} (w:World) (h:eqC1 (P.underlying t) x y=some q) (hx:Rel G (x.ev ρ) a) (hy:Rel G (y.ev ρ) b) :
  (Op.equalIn (d+1) t a b).run P w = .ok (@decide q.q q.h) w∧∃ u,P.underlying t=some u∧quh u=true:=by
 unfold eqC1 at h
 split at h
 ·rename_i kd hu
  split at h
  ·rename_i k m k' n hm hn
   cases hk:decide (k=k') with
   |false=>rw [hk] at h;simp at h
   |true=>
    rw [hk] at h
    simp only [cond_true,Option.some.injEq] at h
    have hk:=of_decide_eq_true hk
    subst hk
    subst h
    rw [wd hm] at hx
    rw [wd hn] at hy
    cases hx
    cases hy
    refine⟨?_,_,hu,rfl⟩
    rw [run_equalIn_int w d t k kd m n hu]
    congr 1
  ·simp at h
 ·rename_i hu
  split at h
  ·rename_i m n
   simp only [Option.some.injEq] at h
   subst h
   cases hx
   cases hy
   refine⟨?_,_,hu,rfl⟩
   rw [run_equalIn_string w d t _ _ hu]
   simp only [ByteArray.toList_eq]
   congr 1
   by_cases he:m=n <;> simp [he]
  ·simp at h
 ·rename_i hu
  split at h
  ·rename_i m n hm hn
   simp only [Option.some.injEq] at h
   subst h
   rw [qb3 hm] at hx
   rw [qb3 hn] at hy
   cases hx
   cases hy
   refine⟨?_,_,hu,rfl⟩
   rw [run_equalIn_bool' w d t _ _ hu]
   congr 1
  ·simp at h
 ·simp at h
theorem qtn {P:Program} {G:Gh} {ρ : Nat→AV} {d:Nat} (w:World) (us ws:Array Value):∀ (i:Nat) (fs:List Field) (xs ys:List SV) (q:DP),eqCs P i fs xs ys=some q →
  (∀ j x,xs[j]? = some x→∃ a,us[i+j]? = some a∧Rel G (x.ev ρ) a)→(∀ j x,ys[j]? = some x→∃ a,ws[i+j]? = some a∧Rel G (x.ev ρ) a)→(Op.eqFields (d+1) us ws fs).run P w = .ok (@decide q.q q.h) w
 |i,[],[],[],q,h,_,_=>by
  simp only [eqCs,Option.some.injEq] at h
  subst h
  simp [Op.eqFields]
 |i,f::r,x::xs,y::ys,q,h,hx,hy=>by
  simp only [eqCs] at h
  cases hc : (f.name != "_" && Nat.beq f.offset i) with
  |false=>rw [hc] at h;simp at h
  |true=>
   rw [hc] at h
   simp only [Bool.and_eq_true] at hc
   obtain⟨hc1,hc2⟩:=hc
   have hc2:=Nat.eq_of_beq_eq_true hc2
   simp only [cond_true] at h
   split at h
   ·rename_i qa qb h1 h2
    simp only [Option.some.injEq] at h
    subst h
    obtain⟨a,ha,hra⟩:=hx 0 x rfl
    obtain⟨b,hb,hrb⟩:=hy 0 y rfl
    obtain⟨e1,u,hu,hsc⟩:=q4w (d:=d) w h1 hra hrb
    have ih:=qtn (d:=d) w us ws (i+1) r xs ys qb h2 (fun j z hz=>by
     obtain⟨a,h3,h4⟩:=hx (j+1) z (by simpa using hz)
     exact⟨a,by rw [← h3];congr 1;omega,h4⟩) (fun j z hz=>by
     obtain⟨a,h3,h4⟩:=hy (j+1) z (by simpa using hz)
     exact⟨a,by rw [← h3];congr 1;omega,h4⟩)
    have hn : f.name ≠ "_" := by simpa using hc1
    rw [Nat.add_zero,← hc2] at ha hb
    simp only [Op.eqFields,Sem.run_bind,Sem.run_ite,if_pos hn,qvc w hu hsc ha,qvc w hu hsc hb,Result.andThen_ok,e1]
    rcases (Classical.em qa.q) with hq|hq
    ·rw [@decide_eq_true _ qa.h hq]
     simp only [Bool.not_true,Bool.false_eq_true,if_false,ih]
     congr 1
     rcases (Classical.em qb.q) with hr|hr
     ·rw [@decide_eq_true _ qb.h hr];exact (@decide_eq_true _ (@instDecidableAnd _ _ qa.h qb.h) ⟨hq,hr⟩).symm
     ·rw [@decide_eq_false _ qb.h hr];exact (@decide_eq_false _ (@instDecidableAnd _ _ qa.h qb.h) fun h=>hr h.2).symm
    ·rw [@decide_eq_false _ qa.h hq]
     simp only [Bool.not_false,if_true,Sem.run_pure]
     congr 1
     exact (@decide_eq_false _ (@instDecidableAnd _ _ qa.h qb.h) fun h=>hq h.1).symm
   ·simp at h
 | _,[],[],_::_,_,h,_,_=>by simp [eqCs] at h
 | _,[],_::_,_,_,h,_,_=>by simp [eqCs] at h
 | _,_::_,[],_,_,h,_,_=>by simp [eqCs] at h
 | _,_::_,_::_,[],_,h,_,_=>by simp [eqCs] at h
section
variable {E : Env} {N : Nat} {ops : Array Oper} {nx : Nat} {sl : List (Nat × SV)} {H : Nat → Option SR} {k : Ef → Prop} {d : Option Tmp} {T : TypeId} {p : String} {af : Array Edge}
structure EqT (P:Program) (t:TypeId):Prop where
 u:P.underlying t=some (.struct (P.fieldsOf t))
 s:P.stoodInHeld t=false
 g:P.eqGuardType P.depth t=false
theorem qx2 {G:Gh} {cs:List AV} {v:Value} (h:Rel G (.ag cs) v):∃ vs:Array Value,v = .agg vs∧∀ (j:Nat) x,cs[j]? = some x→∃ a,vs[j]? = some a∧Rel G x a:=by
 cases h with
 |ag _ vs hl h=>
  refine⟨vs,rfl,fun j x hx=>?_⟩
  have hj:j<vs.size:=by have:=lt_of_getElem? hx;omega
  exact⟨vs[j],by simp [hj],h j x _ hx (by simp [hj])⟩
theorem za9 {t:TypeId} {v1 v2:Value} {G:Gh} {ρ : Nat→AV} {vx vy:SV} {xs ys:List SV} {q:DP} (ht:EqT E.P t) (hx:agOf vx=some xs) (hy:agOf vy=some ys) (hq:eqCs E.P 0 (E.P.fieldsOf t).toList xs ys=some q) (h1:Rel G (vx.ev ρ) v1) (h2:Rel G (vy.ev ρ) v2) (w:World) :
  ∃ us ws,v1 = .agg us∧v2 = .agg ws∧(Op.equalIn 10000 t (.agg us) (.agg ws)).run E.P w = .ok (@decide q.q q.h) w:=by
 rw [qxe hx] at h1
 rw [qxe hy] at h2
 obtain⟨us,rfl,ha⟩:=qx2 h1
 obtain⟨ws,rfl,hb⟩:=qx2 h2
 refine⟨us,ws,rfl,rfl,?_⟩
 rw [run_equalIn_agg w 9999 t us ws ht.u ht.s]
 refine qtn (G:=G) (ρ:= ρ) w us ws 0 _ xs ys q hq (fun j x hx=>?_) (fun j x hx=>?_)
 ·rw [Nat.zero_add]
  exact ha j _ (by rw [jl,List.getElem?_map,hx];rfl)
 ·rw [Nat.zero_add]
  exact hb j _ (by rw [jl,List.getElem?_map,hx];rfl)
theorem q6w {t t':TypeId} {x y:Operand} {vx vy:SV} {xs ys:List SV} {q:DP} (ht:EqT E.P t) (hx:sval N sl x=some vx) (hy:sval N sl y=some vy) (h1:agOf vx=some xs) (h2:agOf vy=some ys) (hq:eqCs E.P 0 (E.P.fieldsOf t).toList xs ys=some q) (h:k ⟨.p (¬ q.q) (@instDecidableNot _ q.h),[],[],nx⟩) :
  ∃ e,Loc E N ops ⟨d,.binOp .neq t x y t',T,p,af,none⟩ nx sl H e∧k e:=by
 refine⟨_,zm fun df rd K rest ρ t1 S hs hk=>qs rfl (qq nofun fun B0 w0 G a w _ hI=>?_),h⟩
 have e1:=hI.eval x
 rw [qo hs hx] at e1
 have e2:=hI.eval y
 rw [qo hs hy] at e2
 obtain⟨us,ws,g1,g2,g3⟩:=za9 ht h1 h2 hq e1 e2 w
 generalize a.eval=ev at g1 g2
 have hg:(eqGuard .neq t x y (.agg us) (.agg ws)).run E.P w = .ok () w:=run_eqGuard_agg w .neq t x y us ws ht.g
 have hd:(!(@decide q.q q.h)) = @decide (¬ q.q) (@instDecidableNot _ q.h):=by
  rcases (Classical.em q.q) with hq|hq
  ·rw [@decide_eq_true _ q.h hq];exact (@decide_eq_false _ (@instDecidableNot _ q.h) fun h=>h hq).symm
  ·rw [@decide_eq_false _ q.h hq];exact (@decide_eq_true _ (@instDecidableNot _ q.h) hq).symm
 refine⟨.bool (@decide (¬ q.q) (@instDecidableNot _ q.h)),w,G,Bv (@decide (¬ q.q) (@instDecidableNot _ q.h)),S,?_,.refl G,hI.agree,.v _,hk⟩
 simp only [← hd]
 simp [execOp,g1,g2,hg,run_neq_struct,g3]
end
end Go.Av
namespace Go.Av
open Go Go.RowKit
theorem q5a (z:Value) (n:Nat):(madeCells #[z] n).toList=List.replicate n z:=by
 apply List.ext_getElem
 ·simp [madeCells]
 ·intro i h1 h2
  simp [madeCells,Nat.mod_one]
section
variable {E : Env} {rd : Option Nat} {N : Nat} {ops : Array Oper} {K : AS → Prop} {s : AS} {rest : List Oper} {d : Option Tmp} {T : TypeId} {p : String} {af : Array Edge}
theorem qsy {t e:TypeId} {i:TypeInfo} {z:Value} {x y:Operand} {kl kc:IntKind} {n:Nat} (hx:qf N s x = .v (.int kl n)) (hy:qf N s y = .v (.int kc n)) (ht:E.P.underlying t=some (.slice e)) (hi:E.P.info? e=some i) (hz:i.zero=some z) (hzc:z.cells = #[z]) (hsz:i.size=1)
  (hb:i.bytes * n≤281474976710656) (hn:n≤16777216)
  (h:AOps E rd N ops rest K (AS.put ⟨s.t,s.st++[.cells 0 e ((List.replicate n z).map .v)],s.df⟩ d (.os s.st.length 0 0 n n))):AOps E rd N ops (⟨d,.makeSlice t x y,T,p,af,none⟩::rest) K s:=by
 refine qs rfl (qq nofun fun B0 w0 G a w _ hI=>?_)
 have hvx:=hI.evalv hx
 have hvy:=hI.evalv hy
 have hb':(i.bytes:Int) * (n:Int)≤281474976710656:=by
  have h:((i.bytes * n:Nat):Int)≤281474976710656:=by omega
  rwa [Int.natCast_mul] at h
 have hrun:=run_makeSlice (P:=E.P) w t e i z ht hi hz kl kc n n (by omega) (Int.le_refl _) (by rw [hsz];simp;omega) hb' (by omega)
 simp only [Int.toNat_natCast,hsz,Nat.mul_one,hzc] at hrun
 have hl:=q5a z n
 have hA:=hI.agree.newCells e (madeCells #[z] n) ((List.replicate n z).map .v) (by rw [← hl];simp) fun k u v hu hv=>by
  rw [List.getElem?_map,← hl] at hu
  have:(madeCells #[z] n).toList[k]? = some v:=by simpa using hv
  rw [this] at hu
  simp only [Option.map_some,Option.some.injEq] at hu
  subst hu
  exact .v v
 have hN:=hI.agree.n
 refine⟨.slice (some ⟨w.heap.size,0,none⟩) n n,_,_,_,_,?_,G.le_new _ _ _ _,hA,.os _ _ _ _ _ _ (by simp [Gh.new,hN]) (Nat.zero_le _) (fun _=>by simp [Gh.new,hN]),h⟩
 simp only [execOp,hvx,hvy]
 rw [Sem.run_bind,hrun]
 rfl
end
section
variable {E : Env} {N : Nat} {ops : Array Oper} {nx : Nat} {sl : List (Nat × SV)} {H : Nat → Option SR} {k : Ef → Prop} {d : Option Tmp} {T : TypeId} {p : String} {af : Array Edge}
theorem q5j {t e:TypeId} {i:TypeInfo} {z:Value} {x y:Operand} {v u:SV} {kl kc:IntKind} {n:Nat} (hx:sval N sl x=some v) (hv:∀ ρ,v.ev ρ = .v (.int kl (n+1:Nat))) (hy:sval N sl y=some u) (hu:∀ ρ,u.ev ρ = .v (.int kc (n+1:Nat))) (ht:E.P.underlying t=some (.slice e)) (hi:E.P.info? e=some i) (hz:i.zero=some z) (hzc:z.cells = #[z]) (hsz:i.size=1) (hone:(AV.v z).one=true)
  (hb:i.bytes * (n+1)≤281474976710656) (hn:n+1≤16777216)
  (h:k ⟨.tp nx,[],[(nx,some (.own 1 e ((List.replicate (n+1) z).map .v)))],nx+1⟩):∃ e,Loc E N ops ⟨d,.makeSlice t x y,T,p,af,none⟩ nx sl H e∧k e:=by
 refine⟨_,qer (fun k r hk=>by rw [qax] at hk;simp at hk) fun df rd K rest ρ t1 S ho _ hk=>qsy (n:=n+1) ((qo ho hx).trans (hv ρ)) ((qo ho hy).trans (hu ρ)) ht hi hz hzc hsz hb hn ?_,h⟩
 have hfl:flat ((List.replicate (n+1) z).map AV.v)=(List.replicate (n+1) z).map AV.v:=by
  unfold flat
  rw [List.flatMap_map]
  induction List.replicate (n+1) z with
  |nil=>rfl
  |cons a r ih=>rw [List.flatMap_cons,ih];rfl
 have:=hk (.os S.length 0 0 (n+1) (n+1)) [.cells 0 e ((List.replicate (n+1) z).map .v)]
  (.inr ⟨S.length,0,n,[],by simp,by rw [hfl,List.append_nil];exact wl,by rw [hfl];simp,fun x hx=>by obtain⟨q,_,rfl⟩:=List.mem_map.1 hx;rfl,by simp,by simp [maxLen];omega⟩)
  (fun o ho=>by simp only [qy,Option.some.injEq] at ho;omega)
 simpa [SV.ev,z8,tpAt,AV.one] using this
end
end Go.Av
namespace Go.Pl
open Go Go.Proofs
structure qu where
 kind:Int
 raw:qc
 fields:List Fld
structure PSt where
 lines:List qc
 frm:Int
 full:Bool
 items:List qu
 block:List qc
 fields:List Fld
 records:Int
def z4 (p:PSt):Option (Int×Int)×PSt:=
 if p.lines=[] then (none,p)
 else if (ja p.lines).2≠0 then (some (p.frm,(ja p.lines).2),p)
 else if p.full=true then (some (p.frm,11),p)
 else (none,{ p with lines:=[],fields:=p.fields++[(ja p.lines).1] })
end Go.Pl
namespace Go.Proofs.YtejoahlpbckbeaaGreatDoor
open Go Go.Av Go.RowKit Go.Proofs Go.Pl
@[reducible] def wn (x : qu) : AV := .ag [Iv x.kind, Sv x.raw, zr x.fields]
@[reducible] def wp (xs : List qu) : AV := .sl 3 (xs.map wn) none
@[reducible] def parC (c1 c2 c3 c4 : AV) (p : PSt) : List AV := [c1, Iv p.frm, Bv p.full, c2, c3, c4, Iv p.records]
@[reducible] def parO (c1 c2 c3 c4 : AV) (p : PSt) : AObj := .cells 0 182 (parC c1 c2 c3 c4 p)
structure ParS (b o:Nat) (p:PSt) (st:List AObj) (c1 c2 c3 c4:AV):Prop where
 lt:o<b
 le:b≤st.length
 ob:st[o]? = some (parO c1 c2 c3 c4 p)
 h1:TipC b st 1 9 (p.lines.map fun x=>Sv x) c1
 h2:TipC b st 3 112 (p.items.map wn) c2
 h3:TipC b st 1 9 (p.block.map fun x=>Sv x) c3
 h4:TipC b st 2 130 (p.fields.map fldA) c4
 ne:∀ t xs ys,c1 = .sl 1 xs (some t)→c3 = .sl 1 ys (some t)→False
structure Keep (b o:Nat) (st st':List AObj):Prop where
 len:st.length≤st'.length
 same:∀ k,k≠o→k<st.length→(k<b∨qfa st[k]?)→st'[k]? = st[k]?
theorem Keep.trans {b o:Nat} {st st' st'':List AObj} (h:Keep b o st st') (k:Keep b o st' st''):Keep b o st st'':=⟨Nat.le_trans h.len k.len,fun i hne hi hc=>by
 have e:=h.same i hne hi hc
 refine (k.same i hne (Nat.lt_of_lt_of_le hi h.len) ?_).trans e
 rw [e]
 exact hc⟩
def qdp (a n:Int):AV:=.ifc 97 (.pp [Iv a,.ifc 53 (Iv n)])
def errP:Option (Int×Int)→AV
 |none=>.v .nilIface
 |some (a,n)=>qdp a n
theorem qgj (a n:Int):Pure (qdp a n):=qc3 (qpm fun x hx=>by
 simp only [List.mem_cons,List.not_mem_nil,or_false] at hx
 rcases hx with rfl|rfl
 ·exact q8 _
 ·exact qc3 (q8 _))
theorem qh2 (a n:Int) (st:List AObj):qn E 163 [Iv a,.ifc 53 (Iv n)] st fun r st'=>r=qdp a n∧st'=st:=by
 refine zz (qgj a n) (qx Tryz.func163 rfl (Nat.le_of_ble_eq_true rfl) ?_)
 repeat' (first|(apply qiy;(iterate 3 exact rfl))|apply qt|apply qj|apply qi|apply ql|apply qk|(apply ku;exact rfl;exact rfl)|(apply qa1;(iterate 3 exact rfl))|apply zi)
 exact qv rfl (zw rfl) ⟨rfl,_,rfl⟩
theorem q0n (ls:List qc) (t:Option Nat) (st:List AObj) (hB:LsB ls) (h:(ja ls).2=0):qn E 208 [.sl 1 (ls.map fun x=>Sv x) t] st fun r st'=>r = .tu [fldA (ja ls).1,.v .nilIface]∧st'=st:=by
 have:=qir ls st hB
 unfold qc9 at this
 rw [h] at this
 exact qkr (qij _ _ _) this
theorem q0o (ls:List qc) (t:Option Nat) (st:List AObj) (hB:LsB ls) (h:(ja ls).2≠0):qn E 208 [.sl 1 (ls.map fun x=>Sv x) t] st fun r st'=>r = .tu [fldA (ja ls).1,.ifc 53 (Iv (ja ls).2)]∧st'=st:=by
 have:=qir ls st hB
 unfold qc9 at this
 rw [qg3 h] at this
 exact qkr (qij _ _ _) this
structure PB (n:Nat) (p:PSt):Prop where
 small:n<900000
 lines:p.lines.length≤n
 linesV:∀ s∈p.lines,s.length<1000000
 items:p.items.length≤n
 block:p.block.length≤n
 blockV:∀ s∈p.block,s.length<1000000
 fields:p.fields.length≤n
 rec0:0≤p.records
 rec1:p.records≤n
theorem PB.ls {n:Nat} {p:PSt} (h:PB n p):LsB p.lines:=⟨by have:=h.lines;have:=h.small;omega,h.linesV⟩
theorem ParS.pre {b o:Nat} {p:PSt} {st l:List AObj} {c1 c2 c3 c4:AV} (P:ParS b o p st c1 c2 c3 c4):ParS b o p (st++l) c1 c2 c3 c4:=
 ⟨P.lt,by have:=P.le;simp;omega,qbv P.ob,qfi P.h1,qfi P.h2,qfi P.h3,qfi P.h4,P.ne⟩
end Go.Proofs.YtejoahlpbckbeaaGreatDoor
namespace Go.Pl
open Go Go.Proofs
def wj (p:PSt):PSt:=
 if p.block=[] then { p with block:=[],fields:=[] }
 else { p with items:=p.items++[⟨if p.fields=[] then 2 else 3,q6 p.block,p.fields⟩],records:=if p.fields=[] then p.records else p.records+1,block:=[],fields:=[] }
def endP (p:PSt):Option (Int×Int)×PSt:=match (z4 p).1 with
 |some e=>(some e,p)
 |none=>(none,wj (z4 p).2)
theorem qje:∀ (x:qc) (r:List qc),Lib.join (x::r) [10]++[10]=q6 (x::r)
 |x,[]=>by rw [Lib.join_one];simp [q6]
 |x,y::r=>by
  have ih:=qje y r
  rw [Lib.join_cons] at ih ⊢
  unfold Lib.joinTail at ih ⊢
  simp only [List.map_cons,List.flatten_cons,q6,List.flatMap_cons] at ih ⊢
  rw [← ih]
  simp
theorem qih:∀ (r:List qc),(∀ s∈r,s.length<1000000)→(q6 r).length≤1000001 * r.length
 | [],_=>by simp [q6]
 |a::r,h=>by
  have ih:=qih r fun s hs=>h s (by simp [hs])
  have ha:=h a (by simp)
  simp only [q6,List.flatMap_cons,List.length_append,List.length_cons,List.length_nil] at ih ⊢
  omega
end Go.Pl
namespace Go.Proofs.YtejoahlpbckbeaaGreatDoor
open Go Go.Av Go.RowKit Go.Proofs Go.Pl
theorem qdr {n:Nat} {p:PSt} (h:PB n p) (hs:n+1<900000):PB (n+1) (z4 p).2:=by
 have h1:=h.lines;have h2:=h.items;have h3:=h.block;have h4:=h.fields;have h5:=h.rec0;have h6:=h.rec1
 unfold z4
 split
 ·exact⟨hs,by simp only;omega,h.linesV,by simp only;omega,by simp only;omega,h.blockV,by simp only;omega,h5,by simp only;omega⟩
 ·split
  ·exact⟨hs,by simp only;omega,h.linesV,by simp only;omega,by simp only;omega,h.blockV,by simp only;omega,h5,by simp only;omega⟩
  ·split
   ·exact⟨hs,by simp only;omega,h.linesV,by simp only;omega,by simp only;omega,h.blockV,by simp only;omega,h5,by simp only;omega⟩
   ·exact⟨hs,by simp,by simp,by simp only;omega,by simp only;omega,h.blockV,by simp;omega,h5,by simp only;omega⟩
theorem q8e (xs:List qc) (tip:Option Nat) (st:List AObj) (hne:xs≠[]) (hN:xs.length≤900000) (hv:∀ s∈xs,s.length<1000000):qn E 123 [.sl 1 (xs.map fun x=>Sv x) tip,Sv [10]] st fun r st'=>r=Sv (Lib.join xs [10])∧st'=st:=by
 refine q2g xs tip [10] st (by omega) ?_
 have h1:=qih xs hv
 cases xs with
 |nil=>exact absurd rfl hne
 |cons x r=>
  have h2:=congrArg List.length (qje x r)
  rw [List.length_append] at h2
  simp only [List.length_cons,List.length_nil] at h2 h1 hN
  omega
def parH (a:Nat) (p:PSt):List (Nat×Option SR):=[(0,some (.cells 182 [.tp a,.i p.frm,.b p.full,.tp (a+1),.tp (a+2),.tp (a+3),.i p.records])),(a,some (.tip 1 9 (p.lines.map fun x=>Sv x))),(a+1,some (.tip 3 112 (p.items.map wn))),(a+2,some (.tip 1 9 (p.block.map fun x=>Sv x))),(a+3,some (.tip 2 130 (p.fields.map fldA)))]
theorem qlt (n:Nat) (p:PSt) (hB:PB n p):jo E 165 [.bx 0 0] 5 (hpF (parH 1 p)) ⟨.a (errP (z4 p).1),je (parH 1 p),parH 5 (z4 p).2++j6 (parH 1 p),9⟩:=by
 refine vj [.bx 0 0] (parH 1 p) 5 (.a (errP (z4 p).1)) (parH 5 (z4 p).2) 9 Tryz.func165 rfl rfl rfl rfl fun S F ρ=>?_
 have hls:=hB.ls
 have hsm:=hB.small
 have hfl:=hB.fields
 by_cases h0:p.lines=[]
 ·have e:z4 p=(none,p):=by unfold z4;rw [if_pos h0]
  rw [e]
  have hl0:(p.lines.map fun x=>Sv x).length=0:=by simp [h0]
  apply qe []
  repeat' (first|apply And.intro|(intro h;try exact cDd)|exact cSd|apply qd []|refine exr ?_|refine qg ?_)
 ·have hl0:(p.lines.map fun x=>Sv x).length≠0:=by simp [h0]
  by_cases hu:(ja p.lines).2=0
  ·have hun:=fun st=>q0n p.lines none st hls hu
   cases hf:p.full with
   |true=>
    have e:z4 p=(some (p.frm,11),p):=by unfold z4;rw [if_neg h0,if_neg (by simp [hu]),if_pos hf]
    rw [e]
    have hft:=fun st=>qh2 p.frm 11 st
    apply qe []
    repeat' (first|apply And.intro|(intro h;try exact cDd)|exact⟨Tryz.call208⟩|refine cpe hun ?_|exact⟨Tryz.call163⟩|refine cpe hft ?_|(exact absurd (by assumption:p.full=false) (by rw [hf];decide))|exact cSd|apply qd []|refine exr ?_|refine qg ?_)
   |false=>
    have e:z4 p=(none,{ p with lines:=[],fields:=p.fields++[(ja p.lines).1] }):=by unfold z4;rw [if_neg h0,if_neg (by simp [hu]),if_neg (by simp [hf])]
    rw [e]
    apply qe [51]
    repeat' (first|apply And.intro|(intro h;try exact cDd)|exact⟨Tryz.call208⟩|refine cpe hun ?_|(exact absurd (by assumption:p.full=true) (by rw [hf];decide))|exact cSd|apply qd [51]|refine exr ?_|refine qg ?_)
    all_goals first|(simp [SV.evs,SV.ev];done)|(simp [SV.evs];omega)
  ·have hun:=fun st=>q0o p.lines none st hls hu
   have e:z4 p=(some (p.frm,(ja p.lines).2),p):=by unfold z4;rw [if_neg h0,if_pos hu]
   rw [e]
   have hft:=fun st=>qh2 p.frm (ja p.lines).2 st
   apply qe []
   repeat' (first|apply And.intro|(intro h;try exact cDd)|exact⟨Tryz.call208⟩|refine cpe hun ?_|exact⟨Tryz.call163⟩|refine cpe hft ?_|exact cSd|apply qd []|refine exr ?_|refine qg ?_)
theorem qx0 (n:Nat) (p:PSt) (hB:PB n p) (hs:n+1<900000):jo E 106 [.bx 0 0] 5 (hpF (parH 1 p)) ⟨.a (errP (endP p).1),je (parH 1 p),parH 5 (endP p).2++j6 (parH 1 p),9⟩:=by
 refine vj [.bx 0 0] (parH 1 p) 5 (.a (errP (endP p).1)) (parH 5 (endP p).2) 9 Tryz.func106 rfl rfl rfl rfl fun S F ρ=>?_
 have hfc:=qlt n p hB
 have hB2:=qdr hB hs
 have hsame:∀ e,(z4 p).1=some e→(z4 p).2=p:=fun e=>by
  unfold z4
  split
  ·simp
  ·split
   ·simp
   ·split
    ·simp
    ·simp
 unfold endP
 generalize z4 p=fq at hfc hB2 hsame
 obtain⟨fe,q⟩:=fq
 cases fe with
 |some e=>
  obtain rfl:=hsame e rfl
  obtain⟨a,k⟩:=e
  apply qe []
  repeat' (first|apply And.intro|(intro h;try exact cDd)|exact⟨Tryz.call165⟩|(refine z0 hfc ?_)|exact cSd|apply qd []|refine exr ?_|refine qg ?_)
 |none=>
  dsimp only at hB2 hfc
  have h3:=hB2.fields
  have h4:=hB2.rec0
  have h5:=hB2.rec1
  have h1:=hB2.block
  have h2:=hB2.items
  by_cases hb:q.block=[]
  ·have e:wj q={ q with block:=[],fields:=[] }:=by unfold wj;rw [if_pos hb]
   simp only [e]
   have hl0:(q.block.map fun x=>Sv x).length=0:=by simp [hb]
   apply qe []
   repeat' (first|apply And.intro|(intro h;try exact cDd)|exact⟨Tryz.call165⟩|(refine z0 hfc ?_)|exact cSd|apply qd []|refine exr ?_|refine qg ?_)
  ·have hl0:(q.block.map fun x=>Sv x).length≠0:=by simp [hb]
   have hbl:=qih q.block hB2.blockV
   obtain⟨b,r,hbr⟩:∃ b r,q.block=b::r:=by
    cases hq:q.block with
    |nil=>exact absurd hq hb
    |cons b r=>exact⟨b,r,rfl⟩
   have hjt:=qje b r
   rw [← hbr] at hjt
   have hjl:=congrArg List.length hjt
   simp only [List.length_append,List.length_cons,List.length_nil] at hjl
   have hjo:=fun st=>q8e q.block none st hb (by omega) hB2.blockV
   by_cases hf:q.fields=[]
   ·have e:wj q={ q with items:=q.items++[⟨2,q6 q.block,q.fields⟩],records:=q.records,block:=[],fields:=[] }:=by unfold wj;rw [if_neg hb,if_pos hf,if_pos hf]
    simp only [e]
    have hl1:(q.fields.map fldA).length=0:=by simp [hf]
    apply qe []
    repeat' (first|apply And.intro|(intro h;try exact cDd)|exact⟨Tryz.call165⟩|(refine z0 hfc ?_)|exact⟨Tryz.call123⟩|refine cpe hjo ?_|exact cSd|apply qd []|refine exr ?_|refine qg ?_)
    all_goals first|(simp [SV.evs,SV.ev,hjt];done)|(simp [SV.evs];omega)
   ·have e:wj q={ q with items:=q.items++[⟨3,q6 q.block,q.fields⟩],records:=q.records+1,block:=[],fields:=[] }:=by unfold wj;rw [if_neg hb,if_neg hf,if_neg hf]
    simp only [e]
    have hl1:(q.fields.map fldA).length≠0:=by simp [hf]
    apply qe []
    repeat' (first|apply And.intro|(intro h;try exact cDd)|exact⟨Tryz.call165⟩|(refine z0 hfc ?_)|exact⟨Tryz.call123⟩|refine cpe hjo ?_|exact cSd|apply qd []|refine exr ?_|refine qg ?_)
    all_goals first|(simp [SV.evs,SV.ev,hjt];done)|(simp [SV.evs];omega)
end Go.Proofs.YtejoahlpbckbeaaGreatDoor
namespace Go.Pl
open Go Go.Proofs
def jk (p:PSt) (no:Int) (text:qc):PSt:={ p with lines:=[text],frm:=no,full:=decide (p.fields.length=40∨(p.fields.length=0∧p.records=400)) }
def zt (p:PSt) (no:Int) (text:qc) (ended:Bool) (kind:Int):Option (Int×Int)×PSt:=
 if kind=3 then
  if p.lines=[] then (some (no,2),p)
  else if ended=true then (none,{ p with lines:=p.lines++[text] })
  else z4 { p with lines:=p.lines++[text] }
 else if kind=1 then endP p
 else z4 p
def vc (p:PSt) (no:Int) (text:qc) (ended:Bool):Option (Int×Int)×PSt:=
 match (zt p no text ended (qm text)).1 with
 |some e=>(some e,p)
 |none=>
  if qm text=5∨ended=false then (some (no,2),p)
  else if qm text=1 then (none,{ (zt p no text ended (qm text)).2 with items:=(zt p no text ended (qm text)).2.items++[⟨1,text++[10],[]⟩] })
  else if qm text=4 then (none,{ jk (zt p no text ended (qm text)).2 no text with block:=(zt p no text ended (qm text)).2.block++[text] })
  else (none,{ (zt p no text ended (qm text)).2 with block:=(zt p no text ended (qm text)).2.block++[text] })
end Go.Pl
namespace Go.Proofs.YtejoahlpbckbeaaGreatDoor
open Go Go.Av Go.RowKit Go.Proofs Go.Pl
theorem PB.more {n m:Nat} {p:PSt} (h:PB n p) (hm:n≤m) (hs:m<900000):PB m p:=by
 have h1:=h.lines;have h2:=h.items;have h3:=h.block;have h4:=h.fields;have h5:=h.rec0;have h6:=h.rec1
 exact⟨hs,by omega,h.linesV,by omega,by omega,h.blockV,by omega,h5,by omega⟩
theorem q1o {n:Nat} {p:PSt} (h:PB n p) (hs:n+1<900000):PB (n+1) (wj p):=by
 have h1:=h.lines;have h2:=h.items;have h3:=h.block;have h4:=h.fields;have h5:=h.rec0;have h6:=h.rec1
 unfold wj
 split
 ·exact⟨hs,by simp only;omega,h.linesV,by simp only;omega,by simp,by simp,by simp,h5,by simp only;omega⟩
 ·refine⟨hs,by simp only;omega,h.linesV,by simp;omega,by simp,by simp,by simp,?_,?_⟩
  ·simp only;split <;> omega
  ·simp only;split <;> omega
theorem ql7 {n:Nat} {p:PSt} {text:qc} (h:PB n p) (hs:n+1<900000) (ht:text.length<1000000):PB (n+1) { p with lines:=p.lines++[text] }:=by
 have h1:=h.lines;have h2:=h.items;have h3:=h.block;have h4:=h.fields;have h5:=h.rec0;have h6:=h.rec1
 exact⟨hs,by simp;omega,ql3 h.linesV ht,by simp only;omega,by simp only;omega,h.blockV,by simp only;omega,h5,by simp only;omega⟩
theorem quz {n:Nat} {p:PSt} {text:qc} (h:PB n p) (hs:n+1<900000) (ht:text.length<1000000):PB (n+1) { p with block:=p.block++[text] }:=by
 have h1:=h.lines;have h2:=h.items;have h3:=h.block;have h4:=h.fields;have h5:=h.rec0;have h6:=h.rec1
 exact⟨hs,by simp only;omega,h.linesV,by simp only;omega,by simp;omega,ql3 h.blockV ht,by simp only;omega,h5,by simp only;omega⟩
theorem q5m {n:Nat} {p:PSt} {x:qu} (h:PB n p) (hs:n+1<900000):PB (n+1) { p with items:=p.items++[x] }:=by
 have h1:=h.lines;have h2:=h.items;have h3:=h.block;have h4:=h.fields;have h5:=h.rec0;have h6:=h.rec1
 exact⟨hs,by simp only;omega,h.linesV,by simp;omega,by simp only;omega,h.blockV,by simp only;omega,h5,by simp only;omega⟩
theorem q5l {n:Nat} {p:PSt} {no:Int} {text:qc} (h:PB n p) (hs:n+1<900000) (ht:text.length<1000000):PB (n+1) (jk p no text):=by
 have h1:=h.lines;have h2:=h.items;have h3:=h.block;have h4:=h.fields;have h5:=h.rec0;have h6:=h.rec1
 exact⟨hs,by simp [jk],by simp [jk,ht],by simp only [jk];omega,by simp only [jk];omega,h.blockV,by simp only [jk];omega,h5,by simp only [jk];omega⟩
theorem qfl {n:Nat} {p:PSt} {no:Int} {text:qc} {ended:Bool} {kind:Int} (h:PB n p) (hs:n+2<900000) (ht:text.length<1000000):PB (n+2) (zt p no text ended kind).2:=by
 unfold zt
 split
 ·split
  ·exact h.more (by omega) hs
  ·split
   ·exact (ql7 h (by omega) ht).more (by omega) hs
   ·exact qdr (ql7 h (by omega) ht) hs
 ·split
  ·unfold endP
   split
   ·exact h.more (by omega) hs
   ·exact q1o (qdr h (by omega)) hs
  ·exact (qdr h (by omega)).more (by omega) hs
theorem qnu (l:qc):1≤qm l∧qm l≤5:=by
 unfold qm
 repeat' split
 all_goals decide
theorem qmc {n:Nat} {p:PSt} {no:Int} {text:qc} {ended:Bool} (h:PB n p) (hs:n+4<900000) (ht:text.length<1000000):PB (n+4) (vc p no text ended).2:=by
 have h2:PB (n+2) (zt p no text ended (qm text)).2:=qfl h (by omega) ht
 unfold vc
 split
 ·exact h.more (by omega) hs
 ·split
  ·exact h.more (by omega) hs
  ·split
   ·exact (q5m h2 (by omega)).more (by omega) hs
   ·split
    ·exact quz (q5l h2 (by omega) ht) hs ht
    ·exact (quz h2 (by omega) ht).more (by omega) hs
theorem q25 (n:Nat) (p:PSt) (no at':Int) (text:qc) (ended:Bool) (hB:PB n p):jo E 164 [.bx 0 0,.ag [.i no,.i at',.s text,.b ended]] 5 (hpF (parH 1 p)) ⟨.tu [],je (parH 1 p),parH 5 (jk p no text)++j6 (parH 1 p),9⟩:=by
 refine vj [.bx 0 0,.ag [.i no,.i at',.s text,.b ended]] (parH 1 p) 5 (.tu []) (parH 5 (jk p no text)) 9 Tryz.func164 rfl rfl rfl rfl fun S F ρ=>?_
 obtain⟨ls,fr,fu,its,bk,fs,rc⟩:=p
 have hml:(fs.map fldA).length=fs.length:=by simp
 by_cases ha:fs.length=40∨(fs.length=0∧rc=400)
 ·have e:jk ⟨ls,fr,fu,its,bk,fs,rc⟩ no text=⟨[text],no,true,its,bk,fs,rc⟩:=by
   unfold jk
   simp only [decide_eq_true ha]
  rw [e]
  apply qe [29]
  repeat' (first|apply And.intro|(intro h;try exact cDd)|exact cSd|apply qd [29]|refine exr ?_|refine qg ?_)
  all_goals (intros;simp only [hml] at *;first|(exfalso;omega)|(have hrc:rc=400:=(by omega);subst hrc;rfl))
 ·have e:jk ⟨ls,fr,fu,its,bk,fs,rc⟩ no text=⟨[text],no,false,its,bk,fs,rc⟩:=by
   unfold jk
   simp only [decide_eq_false ha]
  rw [e]
  apply qe [29]
  repeat' (first|apply And.intro|(intro h;try exact cDd)|exact cSd|apply qd [29]|refine exr ?_|refine qg ?_)
  all_goals (intros;simp only [hml] at *;first|(exfalso;omega)|(have hrc:¬ rc=400:=(by omega);simp [SV.evs,SV.ev,SV.rens,SV.ren,lkS,kj,hrc];exact⟨rfl,rfl,rfl⟩))
theorem qq8 (n:Nat) (p:PSt) (no at':Int) (text:qc) (ended:Bool) (kind:Int) (hB:PB n p) (hs:n+2<900000) (ht:text.length<1000000):jo E 162 [.bx 0 0,.ag [.i no,.i at',.s text,.b ended],.i kind] 5 (hpF (parH 1 p)) ⟨.a (errP (zt p no text ended kind).1),je (parH 1 p),parH 5 (zt p no text ended kind).2++j6 (parH 1 p),9⟩:=by
 refine vj [.bx 0 0,.ag [.i no,.i at',.s text,.b ended],.i kind] (parH 1 p) 5 (.a (errP (zt p no text ended kind).1)) (parH 5 (zt p no text ended kind).2) 9 Tryz.func162 rfl rfl rfl rfl fun S F ρ=>?_
 unfold zt
 by_cases hk3:kind=3
 ·rw [if_pos hk3]
  by_cases h0:p.lines=[]
  ·rw [if_pos h0]
   have hl0:(p.lines.map fun x=>Sv x).length=0:=by simp [h0]
   have hft:=fun st=>qh2 no 2 st
   apply qe []
   repeat' (first|apply And.intro|(intro h;try exact cDd)|exact⟨Tryz.call163⟩|refine cpe hft ?_|exact cSd|apply qd []|refine exr ?_|refine qg ?_)
  ·rw [if_neg h0]
   have hl0:(p.lines.map fun x=>Sv x).length≠0:=by simp [h0]
   have hll:=hB.lines
   have hsm:=hB.small
   have hml:(p.lines.map fun x=>Sv x).length=p.lines.length:=by simp
   have hfc:=qlt (n+1) { p with lines:=p.lines++[text] } (ql7 hB (by omega) ht)
   cases ended with
   |true=>
    rw [if_pos rfl]
    apply qe []
    repeat' (first|apply And.intro|(intro h;try exact cDd)|(exact absurd (by assumption:true=false) (by decide))|exact cSd|apply qd []|refine exr ?_|refine qg ?_)
    all_goals first|(simp [SV.evs,SV.ev];done)|(simp [SV.evs];omega)
   |false=>
    rw [if_neg (by decide)]
    apply qe []
    repeat' (first|apply And.intro|(intro h;try exact cDd)|(exact absurd (by assumption:false=true) (by decide))|exact⟨Tryz.call165⟩|(refine z0 hfc ?_)|exact cSd|apply qd []|refine exr ?_|refine qg ?_)
    all_goals first|(simp [SV.evs,SV.ev];done)|(simp [SV.evs];omega)
 ·rw [if_neg hk3]
  by_cases hk1:kind=1
  ·rw [if_pos hk1]
   have hfc:=qx0 n p hB (by omega)
   apply qe []
   repeat' (first|apply And.intro|(intro h;try exact cDd)|exact⟨Tryz.call106⟩|(refine z0 hfc ?_)|exact cSd|apply qd []|refine exr ?_|refine qg ?_)
  ·rw [if_neg hk1]
   have hfc:=qlt n p hB
   apply qe []
   repeat' (first|apply And.intro|(intro h;try exact cDd)|exact⟨Tryz.call165⟩|(refine z0 hfc ?_)|exact cSd|apply qd []|refine exr ?_|refine qg ?_)
theorem q5n (n:Nat) (p:PSt) (no at':Int) (text:qc) (ended:Bool) (hB:PB n p) (hs:n+4<900000) (ht:text.length<1000000) (hok:(vc p no text ended).1=none):jo E 105 [.bx 0 0,.ag [.i no,.i at',.s text,.b ended]] 5 (hpF (parH 1 p)) ⟨.a (.v .nilIface),je (parH 1 p),parH 5 (vc p no text ended).2++j6 (parH 1 p),9⟩:=by
 refine vj [.bx 0 0,.ag [.i no,.i at',.s text,.b ended]] (parH 1 p) 5 (.a (.v .nilIface)) (parH 5 (vc p no text ended).2) 9 Tryz.func105 rfl rfl rfl rfl fun S F ρ=>?_
 have hfc:=qq8 n p no at' text ended (qm text) hB (by omega) ht
 have hB1:=qfl (no:=no) (text:=text) (ended:=ended) (kind:=qm text) hB (by omega) ht
 have hkr:=qnu text
 have hkd:=fun st=>qjf text st (by omega)
 unfold vc at hok ⊢
 generalize zt p no text ended (qm text)=fq at hfc hB1 hok ⊢
 obtain⟨fe,q⟩:=fq
 cases fe with
 |some e=>exact absurd hok (by simp)
 |none=>
  dsimp only at hB1 hfc hok ⊢
  have h1:=hB1.block
  have h2:=hB1.items
  have hmb:(q.block.map fun x=>Sv x).length=q.block.length:=by simp
  have hmi:(q.items.map wn).length=q.items.length:=by simp
  by_cases hk:qm text=5∨ended=false
  ·rw [if_pos hk] at hok
   exact absurd hok (by simp)
  ·rw [if_neg hk] at hok ⊢
   have hk5:qm text≠5:=fun h=>hk (.inl h)
   obtain rfl:ended=true:=by cases ended <;> simp_all
   by_cases hk1:qm text=1
   ·rw [if_pos hk1]
    apply qe []
    repeat' (first|apply And.intro|(intro h;try exact cDd)|exact⟨Tryz.call161⟩|refine cpe hkd ?_|exact⟨Tryz.call162⟩|(refine z0 hfc ?_)|(exact absurd (by assumption:true=false) (by decide))|exact cSd|apply qd []|refine exr ?_|refine qg ?_)
    all_goals first|(simp [SV.evs,SV.ev];done)|(simp [SV.evs];omega)
   ·rw [if_neg hk1]
    by_cases hk4:qm text=4
    ·rw [if_pos hk4]
     have hbc:=q25 (n+2) q no at' text true hB1
     apply qe []
     repeat' (first|apply And.intro|(intro h;try exact cDd)|exact⟨Tryz.call161⟩|refine cpe hkd ?_|exact⟨Tryz.call162⟩|(refine z0 hfc ?_)|exact⟨Tryz.call164⟩|(refine z0 hbc ?_)|(exact absurd (by assumption:true=false) (by decide))|exact cSd|apply qd []|refine exr ?_|refine qg ?_)
     all_goals first|(simp [SV.evs,SV.ev,jk];done)|(simp [SV.evs,jk];omega)
    ·rw [if_neg hk4]
     apply qe []
     repeat' (first|apply And.intro|(intro h;try exact cDd)|exact⟨Tryz.call161⟩|refine cpe hkd ?_|exact⟨Tryz.call162⟩|(refine z0 hfc ?_)|(exact absurd (by assumption:true=false) (by decide))|exact cSd|apply qd []|refine exr ?_|refine qg ?_)
     all_goals first|(simp [SV.evs,SV.ev];done)|(simp [SV.evs];omega)
theorem q5o (n:Nat) (p:PSt) (no at':Int) (text:qc) (ended:Bool) (hB:PB n p) (hs:n+4<900000) (ht:text.length<1000000) (a m:Int) (hok:(vc p no text ended).1=some (a,m)):jo E 105 [.bx 0 0,.ag [.i no,.i at',.s text,.b ended]] 5 (hpF (parH 1 p)) ⟨.a (qdp a m),je (parH 1 p),parH 5 (zt p no text ended (qm text)).2++j6 (parH 1 p),9⟩:=by
 refine vj [.bx 0 0,.ag [.i no,.i at',.s text,.b ended]] (parH 1 p) 5 (.a (qdp a m)) (parH 5 (zt p no text ended (qm text)).2) 9 Tryz.func105 rfl rfl rfl rfl fun S F ρ=>?_
 have hfc:=qq8 n p no at' text ended (qm text) hB (by omega) ht
 have hB1:=qfl (no:=no) (text:=text) (ended:=ended) (kind:=qm text) hB (by omega) ht
 have hkr:=qnu text
 have hkd:=fun st=>qjf text st (by omega)
 unfold vc at hok
 generalize zt p no text ended (qm text)=fq at hfc hB1 hok ⊢
 obtain⟨fe,q⟩:=fq
 cases fe with
 |some e=>
  dsimp only at hB1 hfc hok ⊢
  obtain rfl:e=(a,m):=by simpa using hok
  apply qe []
  repeat' (first|apply And.intro|(intro h;try exact cDd)|exact⟨Tryz.call161⟩|refine cpe hkd ?_|exact⟨Tryz.call162⟩|(refine z0 hfc ?_)|exact cSd|apply qd []|refine exr ?_|refine qg ?_)
 |none=>
  dsimp only at hB1 hfc hok ⊢
  by_cases hk:qm text=5∨ended=false
  ·rw [if_pos hk] at hok
   obtain⟨rfl,rfl⟩:no=a∧2=m:=by simpa using hok
   have hft:=fun st=>qh2 no 2 st
   cases ended with
   |true=>
    have hk5:qm text=5:=by simpa using hk
    apply qe []
    repeat' (first|apply And.intro|(intro h;try exact cDd)|exact⟨Tryz.call161⟩|refine cpe hkd ?_|exact⟨Tryz.call163⟩|refine cpe hft ?_|exact⟨Tryz.call162⟩|(refine z0 hfc ?_)|(exact absurd (by assumption:true=false) (by decide))|exact cSd|apply qd []|refine exr ?_|refine qg ?_)
   |false=>
    apply qe []
    repeat' (first|apply And.intro|(intro h;try exact cDd)|exact⟨Tryz.call161⟩|refine cpe hkd ?_|exact⟨Tryz.call163⟩|refine cpe hft ?_|exact⟨Tryz.call162⟩|(refine z0 hfc ?_)|(exact absurd (by assumption:false=true) (by decide))|exact cSd|apply qd []|refine exr ?_|refine qg ?_)
  ·rw [if_neg hk] at hok
   split at hok
   ·simp at hok
   ·split at hok
    ·simp at hok
    ·simp at hok
end Go.Proofs.YtejoahlpbckbeaaGreatDoor
namespace Go.Pl
open Go Go.Proofs
def p0:PSt:=⟨[],0,false,[],[],[],0⟩
def runL:Nat→List (qc×Bool)→PSt→Option (Int×Int)×PSt
 | _,[],p=>endP p
 |k,(t,e)::r,p=>match (vc p k t e).1 with
  |some x=>(some x,p)
  |none=>runL (k+1) r (vc p k t e).2
def jw (text:qc):Option (Int×Int)×List qu:=match (runL 0 (zj text) p0).1 with
 |some e=>(some e,[])
 |none=>(none,(runL 0 (zj text) p0).2.items)
end Go.Pl
namespace Go.Proofs.YtejoahlpbckbeaaGreatDoor
open Go Go.Av Go.RowKit Go.Proofs Go.Pl
theorem q14 (x:Option (Int×Int)):Pure (errP x):=by
 rcases x with _ | ⟨a,n⟩
 ·exact q8 _
 ·exact qgj a n
theorem qzi (f:Fld):qj6 (fldA f):=fun x hx=>by
 simp only [AV.cells,List.mem_cons,List.not_mem_nil,or_false] at hx
 rcases hx with rfl|rfl <;> exact q8 _
theorem qa4 (fs:List Fld):Pure (zr fs):=qa7 fun x hx=>by
 obtain⟨f,_,rfl⟩:=List.mem_map.1 hx
 exact qzi f
theorem qgk (x:qu):qj6 (wn x):=fun y hy=>by
 simp only [AV.cells,List.mem_cons,List.not_mem_nil,or_false] at hy
 rcases hy with rfl|rfl|rfl
 ·exact q8 _
 ·exact q8 _
 ·exact qa4 _
theorem qbg (xs:List qu):Pure (wp xs):=qa7 fun x hx=>by
 obtain⟨f,_,rfl⟩:=List.mem_map.1 hx
 exact qgk f
theorem w6 {x y:AV} (hx:Pure x) (hy:Pure y):Pure (.tu [x,y]):=qes fun z hz=>by
 simp only [List.mem_cons,List.not_mem_nil,or_false] at hz
 rcases hz with rfl|rfl
 ·exact hx
 ·exact hy
def qcs (text:qc):AV:=.tu [wp (jw text).2,errP (jw text).1]
theorem qwx (text:qc):Pure (qcs text):=w6 (qbg _) (q14 _)
theorem qk5 {S:List AObj} {o k:Nat} {x:AObj} (h:k≠o):(S.set o x)[k]? = S[k]?:=List.getElem?_set_ne (Ne.symm h)
theorem qsi:PB 0 p0:=⟨by omega,by simp [p0],by simp [p0],by simp [p0],by simp [p0],by simp [p0],by simp [p0],by simp [p0],by simp [p0]⟩
theorem q57 (text:qc) (st:List AObj) (hl:text.length≤60000):qn E 56 [Sv text] st fun r st'=>r=qcs text∧st'=st:=by
 refine jc [.s text] (qwx text) Tryz.func56 rfl rfl (fun _=>rfl) rfl fun S0=>?_
 apply qe [13]
 repeat' (first|apply And.intro|(intro h;try exact cDd)|exact⟨Tryz.call104⟩|(refine Exists.intro _ ⟨q0e _,?_⟩)|exact cSd|apply qd [13]|refine exr ?_|refine qg ?_)
 refine qpo (X:=PSt×Option (Int×Int)) text 4 5 [0,1,2,3,4] (fun (p,e)=>⟨[(2,.bx 0 0),(3,.bx 1 0),(4,.bx 2 0),(15,.fn (.func 160) [] [.bx 4 0])],
   [(0,some (.cells 105 [.a zv])),(1,some (.cells 28 [.a (errP e)])),(2,some (.cells 178 [.bx 3 0])),(3,some (.cells 182 [.tp 5,.i p.frm,.b p.full,.tp 6,.tp 7,.tp 8,.i p.records])),(4,some (.cells 9 [.s text])),
    (5,some (.tip 1 9 (p.lines.map fun x=>Sv x))),(6,some (.tip 3 112 (p.items.map wn))),(7,some (.tip 1 9 (p.block.map fun x=>Sv x))),(8,some (.tip 2 130 (p.fields.map fldA)))],9⟩) _
  (fun k rest (p,e)=>e=none∧PB (4 * k) p∧k+rest.length≤text.length∧runL 0 (zj text) p0=runL k (zj rest) p)
  (fun c (p,e)=>∃ a m,c = .ret∧e=some (a,m)∧(runL 0 (zj text) p0).1=some (a,m)) (p0,none) ⟨rfl,qsi,by omega,rfl⟩ ?_ id (by omega) (fun _=>rfl) rfl (fun _=>rfl) (fun _=>rfl) rfl ?_ ?_ ?_
 ·skip
  repeat' (first|apply And.intro|(intro h;try exact cDd)|exact cSd|apply qd []|refine exr ?_|refine qg ?_)
 ·rintro k rest ⟨p,e⟩ ⟨rfl,hB,hkl,hrun⟩ hne hle
  have hcons:=wq hne
  have hu:=yw 10 rest
  have hpl:=xn 10 rest
  have hr0:0<rest.length:=List.length_pos_iff.2 hne
  rw [hcons] at hrun
  simp only [runL] at hrun
  unfold qnv
  generalize hen:decide (10∈rest)=en at hrun
  generalize upto 10 rest=up at hu hrun ⊢
  have hB2:=qmc (no:=k) (text:=up) (ended:=en) hB (by omega) (by omega)
  cases hah:(vc p k up en).1 with
  |some e=>
   obtain⟨a,m⟩:=e
   rw [hah] at hrun
   simp only at hrun
   have htk:=q5o (4 * k) p k ((text.length:Int) - rest.length) up en hB (by omega) (by omega) a m hah
   refine RA.mk fun S F ρ rd=>?_
   apply qe []
   repeat' (first|apply And.intro|(intro h;try exact cDd)|(refine RB.mk fun S rd=>?_;apply qe [])|exact⟨Tryz.call105⟩|(refine z0 htk ?_)|(refine Exists.intro ((zt p k up en (qm up)).2,some (a,m)) ⟨⟨a,m,rfl,rfl,by rw [hrun]⟩,?_⟩)|exact cSd|apply qd []|refine exr ?_|refine qg ?_)
   all_goals (rw [← hen];rfl)
  |none=>
   rw [hah] at hrun
   simp only at hrun
   have htk:=q5n (4 * k) p k ((text.length:Int) - rest.length) up en hB (by omega) (by omega) hah
   refine RA.mk fun S F ρ rd=>?_
   apply qe []
   repeat' (first|apply And.intro|(intro h;try exact cDd)|(refine RB.mk fun S rd=>?_;apply qe [])|exact⟨Tryz.call105⟩|(refine z0 htk ?_)|(refine Exists.intro ((vc p k up en).2,none) ⟨⟨rfl,hB2,by omega,hrun⟩,?_⟩)|exact cSd|apply qd []|refine exr ?_|refine qg ?_)
   all_goals (rw [← hen];rfl)
 ·rintro k ⟨p,e⟩ ⟨rfl,hB,hkl,hrun⟩
  have hre:runL k (zj []) p=endP p:=by rw [vg];rfl
  rw [hre] at hrun
  have hpe:=qx0 (4 * k) p hB (by omega)
  generalize endP p=fq at hrun hpe
  obtain⟨fe,q⟩:=fq
  cases fe with
  |some e=>
   have hpf:qcs text = .tu [wp [],errP (some e)]:=by unfold qcs jw;rw [hrun]
   rw [hpf]
   obtain⟨a,m⟩:=e
   repeat' (first|apply And.intro|(intro h;try exact cDd)|exact⟨Tryz.call106⟩|(refine z0 hpe ?_)|exact cSd|apply qd []|refine exr ?_|refine qg ?_)
  |none=>
   have hpf:qcs text = .tu [wp q.items,errP none]:=by unfold qcs jw;rw [hrun]
   rw [hpf]
   dsimp only at hpe
   repeat' (first|apply And.intro|(intro h;try exact cDd)|exact⟨Tryz.call106⟩|(refine z0 hpe ?_)|exact cSd|apply qd []|refine exr ?_|refine qg ?_)
 ·rintro c ⟨p,e⟩ ⟨a,m,rfl,rfl,hre⟩
  have hpf:qcs text = .tu [wp [],errP (some (a,m))]:=by unfold qcs jw;rw [hre]
  rw [hpf]
  repeat' (first|apply And.intro|(intro h;try exact cDd)|exact cSd|apply qd []|refine exr ?_|refine qg ?_)
end Go.Proofs.YtejoahlpbckbeaaGreatDoor
namespace Go.Proofs.YtejoahlpbckbeaaGreatDoor
open Go Go.RowKit Go.Extern.Stop Go.Stop Go.Extern Go.Proofs
theorem asT.valueOf27 (t:Addr) (w:World):(ReflectliteValue.unpack (.iface 272 (.pointer (some t)))).run Tryz.prog w
  = .ok (.agg #[.pointer (some ⟨9,272,none⟩),.pointer (some ⟨w.heap.size,0,none⟩),.int .u64 150]) (w.alloc (.cells #[.pointer (some t)] 272)):=by kernel_rfl
theorem asT.type27 (a : Addr) (w : World) : (ReflectliteValue.methodAny (ReflectliteValue.valueError "reflectlite.Value.Type" 0) (fun t _ _ _ => ReflectliteType.toType t) #[.agg #[.pointer (some ⟨9, 272, none⟩), .pointer (some a), .int .u64 150]]).run Tryz.prog w
  = .ok (.iface 336 (.agg #[.pointer (some ⟨9,272,none⟩)])) w:=by kernel_rfl
theorem asT.methodKind (h : Value) (w : World) : (Go.method 495 336 (.agg #[h]) "Kind").run Tryz.prog w = .ok (312, h) w := by kernel_rfl
theorem asT.kind27 (w:World):((ReflectliteType.abiMethod fun t=>(fun a:Nat=>Value.int IntKind.u8 (a:Int)) <$> Rtype.kind t) #[.pointer (some ⟨9,272,none⟩)]).run Tryz.prog w = .ok (.int .u8 22) w:=by kernel_rfl
theorem asT.kind25 (w:World):((ReflectliteType.abiMethod fun t=>(fun a:Nat=>Value.int IntKind.u8 (a:Int)) <$> Rtype.kind t) #[.pointer (some ⟨9,97,none⟩)]).run Tryz.prog w = .ok (.int .u8 22) w:=by kernel_rfl
theorem rlm (z:Sem Value) (f:TypeId→Addr→Nat→Nat→Sem Value) (v:Value) :
  ReflectliteValue.method z f #[v]=(do match ← ReflectliteValue.parts v with|none=>z|some (t,a,fl)=>f t a fl (fl % 32)):=rfl
theorem asT.parts27 (a:Addr) (w:World):(ReflectliteValue.parts (.agg #[.pointer (some ⟨9,272,none⟩),.pointer (some a),.int .u64 150])).run Tryz.prog w = .ok (some (272,a,150)) w:=by kernel_rfl
theorem asT.isNil27 (a p:Addr) (W:World) (ha:W.cell? a=some (.pointer (some p))) :
  (ReflectliteValue.method (ReflectliteValue.valueError "reflectlite.Value.IsNil" 0) ReflectliteValue.isNil #[.agg #[.pointer (some ⟨9, 272, none⟩), .pointer (some a), .int .u64 150]]).run Tryz.prog W = .ok (.bool false) W := by
 rw [rlm]
 simp only [Sem.run_bind,asT.parts27,Result.andThen]
 simp [ReflectliteValue.isNil,loadVar,isAgg,underlying,Tryz.underlying272,ha,Result.andThen]
theorem asT.methodElem (h : Value) (w : World) : (Go.method 495 336 (.agg #[h]) "Elem").run Tryz.prog w = .ok (329, .agg #[h]) w := by kernel_rfl
theorem asT.methodImplements (h : Value) (w : World) : (Go.method 495 336 (.agg #[h]) "Implements").run Tryz.prog w = .ok (330, .agg #[h]) w := by kernel_rfl
theorem asT.methodAssignableTo (h : Value) (w : World) : (Go.method 495 336 (.agg #[h]) "AssignableTo").run Tryz.prog w = .ok (327, .agg #[h]) w := by kernel_rfl
theorem asT.elem27 (w:World):(ReflectliteType.method ReflectliteType.elem #[.agg #[.pointer (some ⟨9,272,none⟩)]]).run Tryz.prog w = .ok (.iface 336 (.agg #[.pointer (some ⟨9,97,none⟩)])) w:=by kernel_rfl
theorem asT.implements25 (w : World) : (ReflectliteType.relation "Implements" ReflectliteType.implements_ #[.agg #[.pointer (some ⟨9, 97, none⟩)], .iface 336 (.agg #[.pointer (some ⟨9, 28, none⟩)])]).run Tryz.prog w = .ok (.bool true) w := by kernel_rfl
theorem asT.typeOf25 (v:Value) (w:World):(ReflectliteType.typeOf #[.iface 97 v]).run Tryz.prog w = .ok (.iface 336 (.agg #[.pointer (some ⟨9,97,none⟩)])) w:=by kernel_rfl
theorem asT.assignable25 (w : World) : (ReflectliteType.relation "AssignableTo" ReflectliteType.assignableTo #[.agg #[.pointer (some ⟨9, 97, none⟩)], .iface 336 (.agg #[.pointer (some ⟨9, 97, none⟩)])]).run Tryz.prog w = .ok (.bool true) w := by kernel_rfl
theorem asT.valueOf25 (e:Addr) (w:World):(ReflectliteValue.unpack (.iface 97 (.pointer (some e)))).run Tryz.prog w
  = .ok (.agg #[.pointer (some ⟨9,97,none⟩),.pointer (some ⟨w.heap.size,0,none⟩),.int .u64 150]) (w.alloc (.cells #[.pointer (some e)] 97)):=by kernel_rfl
theorem asT.elemOf27 (w:World):(Rtype.elem? 272).run Tryz.prog w = .ok (some 97) w:=by kernel_rfl
theorem asT.mk25 (p:Addr) (w:World):(ReflectliteValue.mk 97 p ReflectliteValue.flagAddr).run Tryz.prog w = .ok (.agg #[.pointer (some ⟨9,97,none⟩),.pointer (some p),.int .u64 406]) w:=by kernel_rfl
theorem asT.elemV27 (a p:Addr) (W:World) (ha:W.cell? a=some (.pointer (some p))) :
  (ReflectliteValue.method (ReflectliteValue.valueError "reflectlite.Value.Elem" 0) ReflectliteValue.elem #[.agg #[.pointer (some ⟨9, 272, none⟩), .pointer (some a), .int .u64 150]]).run Tryz.prog W
   = .ok (.agg #[.pointer (some ⟨9,97,none⟩),.pointer (some p),.int .u64 406]) W:=by
 rw [rlm]
 simp only [Sem.run_bind,asT.parts27,Result.andThen]
 simp [ReflectliteValue.elem,loadVar,isAgg,underlying,Tryz.underlying272,ha,Result.andThen,asT.elemOf27,asT.mk25]
theorem rls (v x:Value):ReflectliteValue.set #[v,x]=(do
  let (some (dst,a,fl),some (src,b,_)):=(← ReflectliteValue.parts v,← ReflectliteValue.parts x)
   | unsupported (.noEntry "extern/(internal/reflectlite.Value).Set.zeroValue")
  if fl / ReflectliteValue.flagAddr % 2 == 0 then unsupported (.noEntry "extern/(internal/reflectlite.Value).Set.unaddressable")
  let val ← loadVar src b
  if ← Rtype.directlyAssignable dst src then storeVar dst a val
  else if ← Rtype.implements dst src then
   if (← Rtype.kind src) == 20 then
    match val with
    | .nilIface => unsupported (.noEntry "extern/reflectlite: a nil value of one interface type handed on as a value of another")
    | _=>storeVar dst a val
   else storeVar dst a (.iface src val)
  else panicString ("reflectlite.Set: value of type " ++ (← Rtype.spelt src) ++ " is not assignable to type " ++ (← Rtype.spelt dst))
  pure (.tuple #[])):=rfl
theorem asT.parts25a (a:Addr) (w:World):(ReflectliteValue.parts (.agg #[.pointer (some ⟨9,97,none⟩),.pointer (some a),.int .u64 406])).run Tryz.prog w = .ok (some (97,a,406)) w:=by kernel_rfl
theorem asT.parts25 (a:Addr) (w:World):(ReflectliteValue.parts (.agg #[.pointer (some ⟨9,97,none⟩),.pointer (some a),.int .u64 150])).run Tryz.prog w = .ok (some (97,a,150)) w:=by kernel_rfl
theorem asT.direct25 (w:World):(Rtype.directlyAssignable 97 97).run Tryz.prog w = .ok true w:=by kernel_rfl
theorem asT.set25 (ta b e:Addr) (old:Value) (W:World) (hb:W.cell? b=some (.pointer (some e))) (ht:W.cell? ta=some old) (hf:W.frozen? ta=false) :
  (ReflectliteValue.set #[.agg #[.pointer (some ⟨9,97,none⟩),.pointer (some ta),.int .u64 406],.agg #[.pointer (some ⟨9,97,none⟩),.pointer (some b),.int .u64 150]]).run Tryz.prog W
   = .ok (.tuple #[]) (W.setCell ta (.pointer (some e))):=by
 rw [rls]
 simp only [Sem.run_bind,asT.parts25a,asT.parts25,Result.andThen]
 simp [ReflectliteValue.flagAddr,loadVar,isAgg,underlying,Tryz.underlying97,hb,Result.andThen,asT.direct25,storeVar,Value.cells,storeCells,Addr.add]
 rw [run_store Tryz.prog W ta _ _ (by rfl)]
 simp [ht,hf]
set_option maxHeartbeats 4000000 in
theorem q91 (e t:Addr) (old:Value) (w:World) (hg:w.cell? ⟨1,0,none⟩=some (.iface 336 (.agg #[.pointer (some ⟨9,28,none⟩)]))) (ht0:w.cell? t=some old) (hf0:w.frozen? t=false) :
  Calls Tryz.prog 214 #[.iface 97 (.pointer (some e)),.iface 272 (.pointer (some t))] w fun ev w'=>ev = .returned (.bool true)∧w'=((((w.alloc (.cells #[.pointer (some t)] 272)).alloc (.cells #[.pointer (some ⟨9,272,none⟩),.pointer (some ⟨w.heap.size,0,none⟩),.int .u64 150] 306)).alloc (.cells #[.pointer (some ⟨9,272,none⟩),.pointer (some ⟨w.heap.size,0,none⟩),.int .u64 150] 306)).alloc (.cells #[.pointer (some e)] 97)).setCell t (.pointer (some e)):=by
 have h6:=@run_callFunc_extern Tryz.prog 250 _ (fun args=>ReflectliteValue.unpack (args.getD 0 (.tuple #[]))) Tryz.func250 (by kernel_rfl) (by kernel_rfl) (by kernel_rfl) (by kernel_rfl)
 have h7 := @run_callFunc_extern Tryz.prog 251 _ (ReflectliteValue.methodAny (ReflectliteValue.valueError "reflectlite.Value.Type" 0) (fun t _ _ _ => ReflectliteType.toType t)) Tryz.func251 (by kernel_rfl) (by kernel_rfl) (by kernel_rfl) (by kernel_rfl)
 have h8 := @run_callFunc_extern Tryz.prog 252 _ (ReflectliteValue.method (ReflectliteValue.valueError "reflectlite.Value.IsNil" 0) ReflectliteValue.isNil) Tryz.func252 (by kernel_rfl) (by kernel_rfl) (by kernel_rfl) (by kernel_rfl)
 have h27:=@run_callFunc_extern Tryz.prog 312 _ (ReflectliteType.abiMethod fun t=>do pure (.int .u8 (← Rtype.kind t))) Tryz.func312 (by kernel_rfl) (by kernel_rfl) (by kernel_rfl) (by kernel_rfl)
 have h37:=@run_callFunc_extern Tryz.prog 329 _ (ReflectliteType.method ReflectliteType.elem) Tryz.func329 (by kernel_rfl) (by kernel_rfl) (by kernel_rfl) (by kernel_rfl)
 have h38 := @run_callFunc_extern Tryz.prog 330 _ (ReflectliteType.relation "Implements" ReflectliteType.implements_) Tryz.func330 (by kernel_rfl) (by kernel_rfl) (by kernel_rfl) (by kernel_rfl)
 have h10:=@run_callFunc_extern Tryz.prog 276 _ ReflectliteType.typeOf Tryz.func276 (by kernel_rfl) (by kernel_rfl) (by kernel_rfl) (by kernel_rfl)
 have h35 := @run_callFunc_extern Tryz.prog 327 _ (ReflectliteType.relation "AssignableTo" ReflectliteType.assignableTo) Tryz.func327 (by kernel_rfl) (by kernel_rfl) (by kernel_rfl) (by kernel_rfl)
 have h11 := @run_callFunc_extern Tryz.prog 277 _ (ReflectliteValue.method (ReflectliteValue.valueError "reflectlite.Value.Elem" 0) ReflectliteValue.elem) Tryz.func277 (by kernel_rfl) (by kernel_rfl) (by kernel_rfl) (by kernel_rfl)
 have h12:=@run_callFunc_extern Tryz.prog 278 _ ReflectliteValue.set Tryz.func278 (by kernel_rfl) (by kernel_rfl) (by kernel_rfl) (by kernel_rfl)
 have tO:=asT.typeOf25
 have mA:=asT.methodAssignableTo
 have a25:=asT.assignable25
 have v25:=asT.valueOf25
 have f6:=asT.valueOf27
 have f7:=asT.type27
 have mK:=asT.methodKind
 have mE:=asT.methodElem
 have mI:=asT.methodImplements
 have k27:=asT.kind27
 have k25:=asT.kind25
 have e27:=asT.elem27
 have i25:=asT.implements25
 have n8:=asT.isNil27 ⟨w.heap.size,0,none⟩ t ((w.alloc (.cells #[.pointer (some t)] 272)).alloc (.cells #[.pointer (some ⟨9,272,none⟩),.pointer (some ⟨w.heap.size,0,none⟩),.int .u64 150] 306)) (by simp)
 have hlt:1<w.heap.size:=by
  rcases Nat.lt_or_ge 1 w.heap.size with h|h
  ·exact h
  ·simp [World.cell?,Array.getElem?_eq_none h] at hg
 have hg2:((w.alloc (.cells #[.pointer (some t)] 272)).alloc (.cells #[.pointer (some ⟨9,272,none⟩),.pointer (some ⟨w.heap.size,0,none⟩),.int .u64 150] 306)).cell? ⟨1,0,none⟩=some (.iface 336 (.agg #[.pointer (some ⟨9,28,none⟩)])):=by
  rw [World.cell?_alloc_lt _ _ ⟨1,0,none⟩ (by first|(simp;done)|(simp;omega)),World.cell?_alloc_lt _ _ ⟨1,0,none⟩ hlt];exact hg
 have htl:t.block<w.heap.size:=by
  rcases Nat.lt_or_ge t.block w.heap.size with h|h
  ·exact h
  ·simp [World.cell?,Array.getElem?_eq_none h] at ht0
 have el:=asT.elemV27 ⟨w.heap.size,0,none⟩ t (((w.alloc (.cells #[.pointer (some t)] 272)).alloc (.cells #[.pointer (some ⟨9,272,none⟩),.pointer (some ⟨w.heap.size,0,none⟩),.int .u64 150] 306)).alloc (.cells #[.pointer (some ⟨9,272,none⟩),.pointer (some ⟨w.heap.size,0,none⟩),.int .u64 150] 306)) (by rw [World.cell?_alloc_lt _ _ ⟨w.heap.size,0,none⟩ (by first|(simp;done)|(simp;omega))];simp)
 have st:=asT.set25 t ⟨w.heap.size+1+1+1,0,none⟩ e old ((((w.alloc (.cells #[.pointer (some t)] 272)).alloc (.cells #[.pointer (some ⟨9,272,none⟩),.pointer (some ⟨w.heap.size,0,none⟩),.int .u64 150] 306)).alloc (.cells #[.pointer (some ⟨9,272,none⟩),.pointer (some ⟨w.heap.size,0,none⟩),.int .u64 150] 306)).alloc (.cells #[.pointer (some e)] 97))
  (by rw [World.cell?_alloc_at _ _ _ _ (by simp)];rfl)
  (by rw [World.cell?_alloc_lt _ _ t (by first|(simp;done)|(simp;omega)),World.cell?_alloc_lt _ _ t (by first|(simp;done)|(simp;omega)),World.cell?_alloc_lt _ _ t (by first|(simp;done)|(simp;omega)),World.cell?_alloc_lt _ _ t htl];exact ht0)
  (by rw [World.frozen?_alloc_old _ _ t (by first|(simp;done)|(simp;omega)),World.frozen?_alloc_old _ _ t (by first|(simp;done)|(simp;omega)),World.frozen?_alloc_old _ _ t (by first|(simp;done)|(simp;omega)),World.frozen?_alloc_old _ _ t (Nat.ne_of_lt htl)];exact hf0)
 go_enter Tryz.func214,Tryz.ntmps214
 go_wp2
 refine wp_loop_rounds 1 ?_
 rw [rounds_succ]
 go_wp2
 go_ret
 exact⟨rfl,rfl⟩
theorem asT.typeOf31 (v:Value) (w:World):(ReflectliteType.typeOf #[.iface 53 v]).run Tryz.prog w = .ok (.iface 336 (.agg #[.pointer (some ⟨9,53,none⟩)])) w:=by kernel_rfl
theorem asT.assignable31 (w : World) : (ReflectliteType.relation "AssignableTo" ReflectliteType.assignableTo #[.agg #[.pointer (some ⟨9, 53, none⟩)], .iface 336 (.agg #[.pointer (some ⟨9, 97, none⟩)])]).run Tryz.prog w = .ok (.bool false) w := by kernel_rfl
theorem asT.no230 (v:Value) (xT:TypeId) (w:World):(Instr.typeAssert (.iface 53 v) xT 341 true).run Tryz.prog w = .ok (.tuple #[.nilIface,.bool false]) w:=run_typeAssert_lacksB Tryz.underlying341 (by kernel_rfl) (by kernel_rfl) v xT w
theorem asT.no233 (v:Value) (xT:TypeId) (w:World):(Instr.typeAssert (.iface 53 v) xT 344 true).run Tryz.prog w = .ok (.tuple #[.nilIface,.bool false]) w:=run_typeAssert_lacksB Tryz.underlying344 (by kernel_rfl) (by kernel_rfl) v xT w
theorem asT.no234 (v:Value) (xT:TypeId) (w:World):(Instr.typeAssert (.iface 53 v) xT 345 true).run Tryz.prog w = .ok (.tuple #[.nilIface,.bool false]) w:=run_typeAssert_lacksB Tryz.underlying345 (by kernel_rfl) (by kernel_rfl) v xT w
set_option maxHeartbeats 4000000 in
theorem q7c (n:Int) (t:Addr) (old:Value) (w:World) (hg:w.cell? ⟨1,0,none⟩=some (.iface 336 (.agg #[.pointer (some ⟨9,28,none⟩)]))) (ht0:w.cell? t=some old) :
  Calls Tryz.prog 214 #[.iface 53 (.int .i64 n),.iface 272 (.pointer (some t))] w fun ev w'=>ev = .returned (.bool false)∧Below w.heap.size w w':=by
 have h6:=@run_callFunc_extern Tryz.prog 250 _ (fun args=>ReflectliteValue.unpack (args.getD 0 (.tuple #[]))) Tryz.func250 (by kernel_rfl) (by kernel_rfl) (by kernel_rfl) (by kernel_rfl)
 have h7 := @run_callFunc_extern Tryz.prog 251 _ (ReflectliteValue.methodAny (ReflectliteValue.valueError "reflectlite.Value.Type" 0) (fun t _ _ _ => ReflectliteType.toType t)) Tryz.func251 (by kernel_rfl) (by kernel_rfl) (by kernel_rfl) (by kernel_rfl)
 have h8 := @run_callFunc_extern Tryz.prog 252 _ (ReflectliteValue.method (ReflectliteValue.valueError "reflectlite.Value.IsNil" 0) ReflectliteValue.isNil) Tryz.func252 (by kernel_rfl) (by kernel_rfl) (by kernel_rfl) (by kernel_rfl)
 have h27:=@run_callFunc_extern Tryz.prog 312 _ (ReflectliteType.abiMethod fun t=>do pure (.int .u8 (← Rtype.kind t))) Tryz.func312 (by kernel_rfl) (by kernel_rfl) (by kernel_rfl) (by kernel_rfl)
 have h37:=@run_callFunc_extern Tryz.prog 329 _ (ReflectliteType.method ReflectliteType.elem) Tryz.func329 (by kernel_rfl) (by kernel_rfl) (by kernel_rfl) (by kernel_rfl)
 have h38 := @run_callFunc_extern Tryz.prog 330 _ (ReflectliteType.relation "Implements" ReflectliteType.implements_) Tryz.func330 (by kernel_rfl) (by kernel_rfl) (by kernel_rfl) (by kernel_rfl)
 have h10:=@run_callFunc_extern Tryz.prog 276 _ ReflectliteType.typeOf Tryz.func276 (by kernel_rfl) (by kernel_rfl) (by kernel_rfl) (by kernel_rfl)
 have h35 := @run_callFunc_extern Tryz.prog 327 _ (ReflectliteType.relation "AssignableTo" ReflectliteType.assignableTo) Tryz.func327 (by kernel_rfl) (by kernel_rfl) (by kernel_rfl) (by kernel_rfl)
 have h11 := @run_callFunc_extern Tryz.prog 277 _ (ReflectliteValue.method (ReflectliteValue.valueError "reflectlite.Value.Elem" 0) ReflectliteValue.elem) Tryz.func277 (by kernel_rfl) (by kernel_rfl) (by kernel_rfl) (by kernel_rfl)
 have h12:=@run_callFunc_extern Tryz.prog 278 _ ReflectliteValue.set Tryz.func278 (by kernel_rfl) (by kernel_rfl) (by kernel_rfl) (by kernel_rfl)
 have tO:=asT.typeOf31
 have mA:=asT.methodAssignableTo
 have a25:=asT.assignable31
 have f6:=asT.valueOf27
 have f7:=asT.type27
 have mK:=asT.methodKind
 have mE:=asT.methodElem
 have mI:=asT.methodImplements
 have k27:=asT.kind27
 have k25:=asT.kind25
 have e27:=asT.elem27
 have i25:=asT.implements25
 have n8:=asT.isNil27 ⟨w.heap.size,0,none⟩ t ((w.alloc (.cells #[.pointer (some t)] 272)).alloc (.cells #[.pointer (some ⟨9,272,none⟩),.pointer (some ⟨w.heap.size,0,none⟩),.int .u64 150] 306)) (by simp)
 have hlt:1<w.heap.size:=by
  rcases Nat.lt_or_ge 1 w.heap.size with h|h
  ·exact h
  ·simp [World.cell?,Array.getElem?_eq_none h] at hg
 have hg2:((w.alloc (.cells #[.pointer (some t)] 272)).alloc (.cells #[.pointer (some ⟨9,272,none⟩),.pointer (some ⟨w.heap.size,0,none⟩),.int .u64 150] 306)).cell? ⟨1,0,none⟩=some (.iface 336 (.agg #[.pointer (some ⟨9,28,none⟩)])):=by
  rw [World.cell?_alloc_lt _ _ ⟨1,0,none⟩ (by first|(simp;done)|(simp;omega)),World.cell?_alloc_lt _ _ ⟨1,0,none⟩ hlt];exact hg
 have htl:t.block<w.heap.size:=by
  rcases Nat.lt_or_ge t.block w.heap.size with h|h
  ·exact h
  ·simp [World.cell?,Array.getElem?_eq_none h] at ht0
 have n1:=asT.no230
 have n2:=asT.no233
 have n3:=asT.no234
 go_enter Tryz.func214,Tryz.ntmps214
 go_wp2
 refine wp_loop_rounds 1 ?_
 rw [rounds_succ]
 go_wp2
 go_ret
 exact⟨rfl,(((Below.refl _ _).alloc (Nat.le_refl _) _).alloc (by simp) _).alloc (by first|(simp;done)|(simp;omega)) _⟩
end Go.Proofs.YtejoahlpbckbeaaGreatDoor
namespace Go.Proofs.YtejoahlpbckbeaaGreatDoor
open Go Go.Av Go.RowKit Go.Proofs Go.Pl
theorem qw4 {w:World} {b:Nat} {T:TypeId} {fz:Nat×Nat} {c:Array Value} (v:Value) (hc:w.heap[b]? = some (.cells c T fz)) (h1:c.size=1):w.setCell ⟨b,0,none⟩ v=w.setRow b #[v]:=by
 unfold World.setCell World.setRow
 congr 1
 apply Array.ext_getElem?
 intro i
 rw [Array.getElem?_modify,Array.getElem?_modify]
 by_cases hi:b=i
 ·subst hi
  rw [if_pos rfl,if_pos rfl,hc]
  have:c.setIfInBounds 0 v = #[v]:=by
   apply Array.ext
   ·simp [h1]
   ·intro i h2 h3
    have:i=0:=by simp at h3;omega
    subst this
    simp
  simp [this]
 ·rw [if_neg hi,if_neg hi]
theorem q7b (a n:Int) (o:Nat) (st:List AObj) (ho:st[o]? = some (.cells 0 97 [.v (.pointer none)])):qn E 214 [qdp a n,.ifc 272 (.bx o 0 0)] st fun r st'=>r=Bv true∧st'=st.set o (.cells 0 97 [.pp [Iv a,.ifc 53 (Iv n)]]):=by
 refine⟨fun B0 w0 G vals w hL hA hR=>?_⟩
 obtain⟨v1,v2,rfl⟩:∃ x y,vals = #[x,y]:=by
  have:=hR.1
  match vals,this with
  | ⟨[x,y]⟩,_=>exact⟨x,y,rfl⟩
 have h1:=hR.2 0 _ v1 rfl rfl
 have h2:=hR.2 1 _ v2 rfl rfl
 unfold qdp at h1
 cases h1 with
 |ifc _ _ y1 h1=>
  cases h2 with
  |ifc _ _ y2 h2=>
   have hpp:=h1
   cases h1 with
   |pp _ b off pub hp hlen hr=>
    cases h2 with
    |bx _ _ _ b2 hn hv hb=>
     obtain⟨_,g1,g2,g3,c,g4,g5,g6⟩:=hA.ob o _ ho
     have hb:=hb g1
     subst hb
     have hc1:c.size=1:=by simpa using g5.symm
     have hl:=(hL w hA.below).ert
     have hcell:w.cell? ⟨(G.ob o).blk,0,none⟩=some c[0]:=by simp [World.cell?,g4,hc1]
     have hfz:w.frozen? ⟨(G.ob o).blk,0,none⟩=false:=by simp [World.frozen?,g4]
     have hlt:(G.ob o).blk<w.heap.size:=(Array.getElem?_eq_some_iff.1 g4).1
     refine (q91 ⟨b,off,none⟩ ⟨(G.ob o).blk,0,none⟩ c[0] w hl hcell hfz).mono ?_
     rintro e w' ⟨rfl,rfl⟩
     have hb1:Below w.heap.size w ((((w.alloc (.cells #[.pointer (some ⟨(G.ob o).blk,0,none⟩)] 272)).alloc (.cells #[.pointer (some ⟨9,272,none⟩),.pointer (some ⟨w.heap.size,0,none⟩),.int .u64 150] 306)).alloc (.cells #[.pointer (some ⟨9,272,none⟩),.pointer (some ⟨w.heap.size,0,none⟩),.int .u64 150] 306)).alloc (.cells #[.pointer (some ⟨b,off,none⟩)] 97)):=
      ((((Below.refl _ _).alloc (Nat.le_refl _) _).alloc (by simp) _).alloc (by first|(simp;done)|(simp;omega)) _).alloc (by first|(simp;done)|(simp;omega)) _
     have hA1:=hA.fresh hb1
     obtain⟨_,k1,k2,k3,c',k4,k5,k6⟩:=hA1.ob o _ ho
     have hc1':c'.size=1:=by simpa using k5.symm
     refine⟨.bool true,G,Bv true,_,rfl,.refl G,?_,.v _,rfl,rfl⟩
     rw [qw4 _ k4 hc1']
     exact hA1.setRow ho (by simp) fun i x y hx hy=>by
      match i with
      | 0=>simp at hx hy;subst hx;subst hy;exact hpp
      |i+1=>simp at hx
theorem q4c (n:Int) (o:Nat) (st:List AObj) (ho:st[o]? = some (.cells 0 97 [.v (.pointer none)])):qn E 214 [.ifc 53 (Iv n),.ifc 272 (.bx o 0 0)] st fun r st'=>r=Bv false∧st'=st:=by
 refine⟨fun B0 w0 G vals w hL hA hR=>?_⟩
 obtain⟨v1,v2,rfl⟩:∃ x y,vals = #[x,y]:=by
  have:=hR.1
  match vals,this with
  | ⟨[x,y]⟩,_=>exact⟨x,y,rfl⟩
 have h1:=hR.2 0 _ v1 rfl rfl
 have h2:=hR.2 1 _ v2 rfl rfl
 cases h1 with
 |ifc _ _ y1 h1=>
  cases h2 with
  |ifc _ _ y2 h2=>
   cases h1 with
   |v=>
    cases h2 with
    |bx _ _ _ b2 hn hv hb=>
     obtain⟨_,g1,g2,g3,c,g4,g5,g6⟩:=hA.ob o _ ho
     have hb:=hb g1
     subst hb
     have hc1:c.size=1:=by simpa using g5.symm
     have hl:=(hL w hA.below).ert
     have hcell:w.cell? ⟨(G.ob o).blk,0,none⟩=some c[0]:=by simp [World.cell?,g4,hc1]
     refine (q7c n ⟨(G.ob o).blk,0,none⟩ c[0] w hl hcell).mono ?_
     rintro e w' ⟨rfl,hb⟩
     exact⟨_,G,Bv false,st,rfl,.refl G,hA.fresh hb,.v _,rfl,rfl⟩
end Go.Proofs.YtejoahlpbckbeaaGreatDoor
namespace Go.Proofs.YtejoahlpbckbeaaGreatDoor
open Go Go.Av Go.RowKit Go.Extern.Stop Go.Stop Go.Extern Go.Proofs
theorem isT.has (v:Value) (xT:TypeId) (w:World):(Instr.typeAssert (.iface 97 v) xT 344 true).run Tryz.prog w = .ok (.tuple #[.iface 97 v,.bool true]) w:=run_typeAssert_hasB Tryz.underlying344 (by kernel_rfl) v xT w
theorem isT.typeOf (v:Value) (w:World):(ReflectliteType.typeOf #[.iface 53 v]).run Tryz.prog w = .ok (.iface 336 (.agg #[.pointer (some ⟨9,53,none⟩)])) w:=by kernel_rfl
theorem isT.cmp (w : World) : (ReflectliteType.method (fun t => do Rtype.noPackHeld "Comparable" t; (fun a => Value.bool a.comparable) <$> typeInfo t) #[.agg #[.pointer (some ⟨9, 53, none⟩)]]).run Tryz.prog w = .ok (.bool true) w := by kernel_rfl
end Go.Proofs.YtejoahlpbckbeaaGreatDoor
namespace Go.Pl
open Go Go.Proofs
inductive ErrV where
 |no
 |num (n:Int)
 |at' (a n:Int)
 deriving DecidableEq
def ErrV.code:ErrV→Int
 | .no=>0
 | .num n=>n
 | .at' _ n=>n
def ErrV.pos:ErrV→Int
 | .no=> -9
 | .num _=> -9
 | .at' a _=>a
def wi:Nat→List Fld→ErrV
 | _,[]=>.no
 |k,f::r=>if ka f=0 then wi (k+1) r else .at' k (ka f)
def zl (fs:List Fld):ErrV:=if fs=[] then .num 2 else if 40<fs.length then .num 11 else wi 0 fs
theorem qkx:∀ (k:Nat) (p r:List Fld),(∀ x∈p,ka x=0)→wi k (p++r)=wi (k+p.length) r
 |k,[],r,_=>by simp
 |k,f::p,r,h=>by
  have h1:=h f (by simp)
  rw [List.cons_append,wi,if_pos h1,qkx (k+1) p r fun x hx=>h x (by simp [hx])]
  congr 1
  simp
  omega
theorem qi0:∀ (k:Nat) (r:List Fld),(wi k r).code=0↔wi k r = .no
 |k,[]=>by simp [wi,ErrV.code]
 |k,f::r=>by
  unfold wi
  split
  ·exact qi0 _ r
  ·rename_i h
   simp [ErrV.code,h]
theorem qiz (fs:List Fld):(zl fs).code=0↔zl fs = .no:=by
 unfold zl
 split
 ·simp [ErrV.code]
 ·split
  ·simp [ErrV.code]
  ·exact qi0 _ _
end Go.Pl
namespace Go.Proofs.YtejoahlpbckbeaaGreatDoor
open Go Go.Av Go.RowKit Go.Proofs Go.Pl
theorem qpc {st st':List AObj} (h:∀ k,k<st.length→st'[k]? = st[k]?):∃ ext,st'=st++ext:=by
 refine qhg ?_ h
 rcases Nat.eq_zero_or_pos st.length with h0|h0
 ·omega
 ·have h1:=h (st.length - 1) (by omega)
  have h2:st[st.length - 1]? = some (st[st.length - 1]'(by omega)):=List.getElem?_eq_getElem (by omega)
  have:=lt_of_getElem? (h1.trans h2)
  omega
def gErr (x:qr):ErrV:=if x.kind=2 then (if x.fields=[] then .no else .num 2) else if x.kind=1∨x.kind=3 then zl x.fields else .num 2
def yo:Nat→List qr→ErrV
 | _,[]=>.no
 |k,x::r=>if (gErr x).code=0 then yo (k+1) r else .at' k (gErr x).code
def eErr (b:List qr):ErrV:=if b.length<1∨40<b.length then .num 1 else yo 0 b
theorem qja (x:qr):(gErr x).code=0↔gErr x = .no:=by
 unfold gErr
 split
 ·split <;> simp [ErrV.code]
 ·split
  ·exact qiz _
  ·simp [ErrV.code]
theorem qna:∀ (k:Nat) (r:List qr),(yo k r).code=0↔yo k r = .no
 |k,[]=>by simp [yo,ErrV.code]
 |k,f::r=>by
  unfold yo
  split
  ·exact qna _ r
  ·rename_i h
   simp [ErrV.code] at h ⊢
   exact h
theorem q1y (b:List qr):(eErr b).code=0↔eErr b = .no:=by
 unfold eErr
 split
 ·simp [ErrV.code]
 ·exact qna _ _
def errA:ErrV→AV
 | .no=>.v .nilIface
 | .num n=>.ifc 53 (Iv n)
 | .at' a n=>.ifc 97 (.pp [Iv a,.ifc 53 (Iv n)])
theorem kg (e:ErrV):Pure (errA e):=by
 cases e with
 |no=>exact q8 _
 |num n=>exact qc3 (q8 _)
 |at' a n=>exact qgj a n
def KeyB (fs:List Fld):Prop:=∀ f∈fs,f.1.length<4294967281
theorem q40 {fs:List Fld} {i:Nat} {x:Fld} (h:fs[i]? = some x):(fs.map fldA)[i]? = some (fldA x):=by simp [h]
theorem q10 {b:List qr} {i:Nat} {x:qr} (h:b[i]? = some x):(b.map x2)[i]? = some (x2 x):=by simp [h]
theorem q1m {fs:List Fld} (h:¬ 0<fs.length):zl fs = .num 2:=if_pos (List.length_eq_zero_iff.1 (by omega))
theorem qyx {fs:List Fld} (h:40<fs.length):zl fs = .num 11:=(if_neg fun h0=>by simp [h0] at h).trans (if_pos h)
theorem q1n {fs:List Fld} (h0:0<fs.length) (h:¬ 40<fs.length):zl fs=wi 0 fs:=(if_neg (List.length_pos_iff.1 h0)).trans (if_neg h)
theorem qh1 (fs:List Fld) (st:List AObj) (e:ErrV) (h:zl fs=e) (hK:KeyB fs) (hl:fs.length<9223372036854775808):qn E 171 [zr fs] st fun r st'=>r=errA e∧st'=st:=by
 subst h
 refine jc [.a (zr fs)] (kg _) Tryz.func171 rfl rfl (fun _=>rfl) rfl fun S0=>?_
 have hml:(fs.map fldA).length=fs.length:=by simp
 apply qe []
 repeat' (first|apply And.intro|(intro h;try exact cDd)|exact cSd|apply qd []|refine exr ?_|refine qg ?_)
 ·rw [q1m (by omega)];rfl
 ·rw [qyx (by omega)];rfl
 rw [q1n (by omega) (by omega)]
 refine vv (X:=Nat) (fun k=>⟨[(16,.a (zr fs)),(17,.i (fs.map fldA).length),(18,.i k)],[],0⟩) (fun k=>k≤fs.length∧wi k (fs.drop k)=wi 0 fs) (fun k=>fs.length - k) 0 ⟨by omega,rfl⟩ ?_ ?_
 ·skip
  repeat' (first|apply And.intro|(intro h;try exact cDd)|exact cSd|apply qd []|refine exr ?_|refine qg ?_)
 ·rintro k ⟨hk,hc⟩
  by_cases hlt:k<fs.length
  ·obtain⟨y,hy⟩:∃ y,fs[k]? = some y:=⟨_,List.getElem?_eq_getElem hlt⟩
   have hget:=q40 hy
   have hky:=hK y (List.mem_of_getElem? hy)
   obtain⟨_,hye⟩:=List.getElem?_eq_some_iff.1 hy
   rw [List.drop_eq_getElem_cons hlt,hye,wi] at hc
   rw [← hc]
   by_cases ha:ka y=0
   ·have hc4:=fun st=>qe3 y st hky ha
    apply qe [4]
    repeat' (first|apply And.intro|(intro h;try exact cDd)|(refine Exists.intro (k) ⟨by omega,_,hget,?_⟩)|exact⟨Tryz.call173⟩|refine cpe hc4 ?_|(refine Exists.intro (k+1) ⟨⟨by omega,by simp_all⟩,by omega,?_⟩)|exact cSd|apply qd [4]|refine exr ?_|refine qg ?_)
   ·have hc4:=fun st=>qe4 y st hky ha
    rw [if_neg ha]
    apply qe [4]
    repeat' (first|apply And.intro|(intro h;try exact cDd)|(refine Exists.intro (k) ⟨by omega,_,hget,?_⟩)|exact⟨Tryz.call173⟩|refine cpe hc4 ?_|exact cSd|apply qd [4]|refine exr ?_|refine qg ?_)
  ·rw [List.drop_eq_nil_of_le (by omega),wi] at hc
   rw [← hc]
   apply qe []
   repeat' (first|apply And.intro|(intro h;try exact cDd)|exact cSd|apply qd []|refine exr ?_|refine qg ?_)
theorem q7y (x:qr) (st:List AObj) (e:ErrV) (h:gErr x=e) (hK:KeyB x.fields) (hl:x.fields.length<9223372036854775808):qn E 117 [x2 x] st fun r st'=>r=errA e∧st'=st:=by
 subst h
 refine jc [.a (x2 x)] (kg _) Tryz.func117 rfl rfl (fun _=>rfl) rfl fun S0=>?_
 have hml:(x.fields.map fldA).length=x.fields.length:=by simp
 have hpos:x.fields=[]↔x.fields.length=0:=by simp
 have hc6:=fun st=>qh1 x.fields st _ rfl hK hl
 unfold gErr
 simp only [hpos]
 generalize zl x.fields=e at *
 cases e
 all_goals apply qe [1]
 repeat' (first|apply And.intro|(intro h;try exact cDd)|exact⟨Tryz.call171⟩|refine cpe hc6 ?_|exact cSd|apply qd [1]|refine exr ?_|refine qg ?_)
 all_goals clear hc6
 all_goals grind [errA]
theorem q4t (n:Int) (st:List AObj):qn E 172 [.ifc 53 (Iv n)] st fun r st'=>r = .ifc 53 (Iv n)∧st'=st:=by
 refine zz (qc3 (q8 _)) (qx Tryz.func172 rfl (Nat.le_of_ble_eq_true rfl) ?_)
 repeat' (first|apply qt|apply qj|apply qi|apply ql|apply qk|(apply qh;exact rfl;apply cd_f;exact cRa)|(apply ku;exact rfl;exact rfl)|(apply vo;exact rfl;exact rfl)|apply q9|apply zi|(apply q5;exact Tryz.call214;exact q4c _ (st.length+0) _ (xg rfl)))
 exact qv rfl (zw rfl) ⟨rfl,_,rfl⟩
theorem q4s (a n:Int) (st:List AObj):qn E 172 [qdp a n] st fun r st'=>r = .ifc 53 (Iv n)∧st'=st:=by
 refine zz (qc3 (q8 _)) (qx Tryz.func172 rfl (Nat.le_of_ble_eq_true rfl) ?_)
 repeat' (first|apply qt|apply qj|apply qi|apply ql|apply qk|(apply qh;exact rfl;apply cd_t;exact cRa)|(apply ku;exact rfl;exact rfl)|(apply vo;exact rfl;exact rfl)|(apply xj;(iterate 4 exact rfl))|(apply j9;(iterate 3 exact rfl))|(apply wc;exact rfl;exact rfl)|apply zi|(apply q5;exact Tryz.call214;exact q7b a n (st.length+0) _ (xg rfl))|(apply ko;exact rfl;(focus first|assumption|(repeat' (first|assumption|exact wl|exact xg rfl|apply jy|apply vb|omega|apply qbv)));exact rfl;exact rfl))
 exact qv rfl (zw rfl) ⟨rfl,qpc fun j hj=>(qk5 (by omega)).trans (List.getElem?_append_left hj)⟩
theorem qlq (k:Int) (e:ErrV) (st:List AObj) (he:e.code≠0):qn E 118 [Iv k,errA e] st fun r st'=>r=errA (.at' k e.code)∧st'=st:=by
 refine zz (kg _) (qx Tryz.func118 rfl (Nat.le_of_ble_eq_true rfl) ?_)
 cases e with
 |no=>exact absurd rfl he
 |num n=>
  repeat' (first|(apply qiy;(iterate 3 exact rfl))|apply qt|apply qj|apply qi|apply ql|apply qk|(apply ku;exact rfl;exact rfl)|(apply qa1;(iterate 3 exact rfl))|apply zi|(apply q5;exact Tryz.call172;exact q4t _ _))
  exact qv rfl (zw rfl) ⟨rfl,_,rfl⟩
 |at' a n=>
  repeat' (first|(apply qiy;(iterate 3 exact rfl))|apply qt|apply qj|apply qi|apply ql|apply qk|(apply ku;exact rfl;exact rfl)|(apply qa1;(iterate 3 exact rfl))|apply zi|(apply q5;exact Tryz.call172;exact q4s a n _))
  exact qv rfl (zw rfl) ⟨rfl,_,rfl⟩
structure EdB (x:qr):Prop where
 keys:KeyB x.fields
 len:x.fields.length<9223372036854775808
 id1 : -9223372036854775808≤x.id
 id2:x.id≤9223372036854775807
@[reducible] def yr (b : List qr) : AV := .sl 3 (b.map x2) none
theorem q4u (b:List qr) (st:List AObj) (e:ErrV) (h:eErr b=e) (hB:∀ x∈b,EdB x) (hl:b.length<9223372036854775808):qn E 69 [yr b] st fun r st'=>r=errA e∧st'=st:=by
 subst h
 refine jc [.a (yr b)] (kg _) Tryz.func69 rfl rfl (fun _=>rfl) rfl fun S0=>?_
 have hml:(b.map x2).length=b.length:=by simp
 have h1:b.length<1∨40<b.length→eErr b = .num 1:=fun h=>if_pos h
 have hr:¬ (b.length<1∨40<b.length)→eErr b=yo 0 b:=fun h=>if_neg h
 apply qe []
 repeat' (first|apply And.intro|(intro h;try exact cDd)|exact cSd|apply qd []|refine exr ?_|refine qg ?_)
 ·rw [h1 (by omega)];rfl
 ·rw [h1 (by omega)];rfl
 rw [hr (by omega)]
 refine vv (X:=Nat) (fun k=>⟨[(15,.a (yr b)),(16,.i (b.map x2).length),(17,.i k)],[],0⟩) (fun k=>k≤b.length∧yo k (b.drop k)=yo 0 b) (fun k=>b.length - k) 0 ⟨by omega,rfl⟩ ?_ ?_
 ·skip
  repeat' (first|apply And.intro|(intro h;try exact cDd)|exact cSd|apply qd []|refine exr ?_|refine qg ?_)
 ·rintro k ⟨hk,hc⟩
  by_cases hlt:k<b.length
  ·obtain⟨y,hy⟩:∃ y,b[k]? = some y:=⟨_,List.getElem?_eq_getElem hlt⟩
   have hget:=q10 hy
   have hky:=hB y (List.mem_of_getElem? hy)
   obtain⟨_,hye⟩:=List.getElem?_eq_some_iff.1 hy
   rw [List.drop_eq_getElem_cons hlt,hye,yo] at hc
   have hc9:=fun st=>q7y y st _ rfl hky.keys hky.len
   have hcf:=fun st=>qlq k (gErr y) st
   rw [← hc]
   cases hg:gErr y
   all_goals rw [hg] at hc hc9 hcf
   ·apply qe [4]
    repeat' (first|apply And.intro|(intro h;try exact cDd)|(refine Exists.intro (k) ⟨by omega,_,hget,?_⟩)|exact⟨Tryz.call117⟩|refine cpe hc9 ?_|(refine Exists.intro (k+1) ⟨⟨by omega,(if_pos rfl).symm⟩,by omega,?_⟩)|exact cSd|apply qd [4]|refine exr ?_|refine qg ?_)
   all_goals have hgc:=fun h=>qja y |>.1 h
   all_goals rw [hg] at hgc
   all_goals rw [if_neg fun h=>nomatch hgc h]
   ·have hcg:=fun st=>hcf st fun h=>nomatch hgc h
    apply qe [4]
    repeat' (first|apply And.intro|(intro h;try exact cDd)|(refine Exists.intro (k) ⟨by omega,_,hget,?_⟩)|exact⟨Tryz.call117⟩|refine cpe hc9 ?_|exact⟨Tryz.call118⟩|refine cpe hcg ?_|exact cSd|apply qd [4]|refine exr ?_|refine qg ?_)
   ·have hcg:=fun st=>hcf st fun h=>nomatch hgc h
    apply qe [4]
    repeat' (first|apply And.intro|(intro h;try exact cDd)|(refine Exists.intro (k) ⟨by omega,_,hget,?_⟩)|exact⟨Tryz.call117⟩|refine cpe hc9 ?_|exact⟨Tryz.call118⟩|refine cpe hcg ?_|exact cSd|apply qd [4]|refine exr ?_|refine qg ?_)
  ·rw [List.drop_eq_nil_of_le (by omega),yo] at hc
   rw [← hc]
   apply qe []
   repeat' (first|apply And.intro|(intro h;try exact cDd)|exact cSd|apply qd []|refine exr ?_|refine qg ?_)
def okE:ErrV→Prop
 | .no=>True
 | .num n=>n≠0
 | .at' _ n=>n≠0
theorem zav (e:ErrV) (st:List AObj) (he:okE e):qn E 14 [errA e] st fun r st'=>r=Iv e.code∧st'=st:=by
 refine zz (q8 _) (qx Tryz.func14 rfl (Nat.le_of_ble_eq_true rfl) ?_)
 cases e with
 |no=>
  repeat' (first|apply qt|apply za|apply qj|apply qi|apply ql|apply qk)
  refine vw (fun (k:Unit) s=>StA [(0,.v .nilIface),(7,Iv 0)] (st++[]) [] s) (fun k=>0) () (kz ⟨rfl,rfl,trivial⟩) ?_
  rintro k _ ⟨t,rfl⟩
  repeat' (first|apply qt|apply za|apply qj|apply qi|apply ql|apply qk|(apply q7;(iterate 3 exact rfl))|(apply qh;exact rfl;apply xk;exact cAo)|(apply qh;exact rfl;apply cd_t;exact cRa)|(apply qd0;exact rfl;exact rfl)|apply q9|apply zi)
  exact qv rfl (zw rfl) ⟨rfl,_,rfl⟩
 |num n=>
  have hk:n≠0:=he
  repeat' (first|apply qt|apply za|apply qj|apply qi|apply ql|apply qk)
  refine vw (fun (k:Unit) s=>StA [(0,errA (.num n)),(7,Iv 0)] (st++[]) [] s) (fun k=>0) () (kz ⟨rfl,rfl,trivial⟩) ?_
  rintro k _ ⟨t,rfl⟩
  repeat' (first|apply qt|apply za|apply qj|apply qi|apply ql|apply qk|(apply vl;exact rfl;exact rfl)|(apply q7;(iterate 3 exact rfl))|(apply jr;(iterate 4 exact rfl))|(apply qhm;exact cRa)|(apply zf;exact rfl;apply pk_t;exact cRa)|(apply qh;exact rfl;apply xk;exact cAo)|(apply qh;exact rfl;apply cd_f;exact cRa)|(apply qab;exact rfl;exact rfl)|apply q9|apply zi|(apply qcv;(iterate 3 exact rfl)))
  exact qv rfl (zw rfl) ⟨rfl,_,rfl⟩
 |at' a n=>
  have hk:n≠0:=he
  repeat' (first|apply qt|apply za|apply qj|apply qi|apply ql|apply qk)
  refine vw (fun (j:Nat) s=>(j=0∧StA [(0,errA (.at' a n)),(7,Iv 0)] (st++[]) [] s)∨(j=1∧StA [(0,errA (.num n)),(7,Iv 1)] (st++[]) [] s)) (fun j=>1 - j) 0 (.inl ⟨rfl,kz ⟨rfl,rfl,trivial⟩⟩) ?_
  rintro j _ (⟨rfl,t,rfl⟩ | ⟨rfl,t,rfl⟩)
  ·skip
   repeat' (first|apply qt|apply za|apply qj|apply qi|apply ql|apply qk|(apply vl;exact rfl;exact rfl)|(apply q7;(iterate 3 exact rfl))|(apply wx;exact rfl)|(apply jr;(iterate 4 exact rfl))|(apply qqt;exact cRa)|(apply qt0;exact cRa)|(apply qf0;exact cRa)|(apply zf;exact rfl;apply qz6;exact cRa)|(apply zf;exact rfl;apply pk_f;exact cRa)|(apply qh;exact rfl;apply xk;exact cAo)|(apply qh;exact rfl;apply cd_f;exact cRa)|(apply jj;exact rfl;exact rfl;exact zy (by omega) (by omega))|(apply qab;exact rfl;exact rfl)|(apply xj;(iterate 4 exact rfl))|(apply j9;(iterate 3 exact rfl))|(apply wc;exact rfl;exact rfl)|(apply x5;(iterate 3 exact rfl))|apply q9|(apply qmp;(iterate 5 exact rfl))|(apply qcv;(iterate 3 exact rfl)))
   exact⟨1,.inr ⟨rfl,kz ⟨rfl,rfl,trivial⟩⟩,by omega⟩
  ·skip
   repeat' (first|apply qt|apply za|apply qj|apply qi|apply ql|apply qk|(apply vl;exact rfl;exact rfl)|(apply q7;(iterate 3 exact rfl))|(apply jr;(iterate 4 exact rfl))|(apply qhm;exact cRa)|(apply zf;exact rfl;apply pk_t;exact cRa)|(apply qh;exact rfl;apply xk;exact cAo)|(apply qh;exact rfl;apply cd_f;exact cRa)|(apply qab;exact rfl;exact rfl)|apply q9|apply zi|(apply qcv;(iterate 3 exact rfl)))
   exact qv rfl (zw rfl) ⟨rfl,_,rfl⟩
theorem qzp (e:ErrV) (w:Int) (st:List AObj) (he:okE e):qn E 25 [errA e,Iv w] st fun r st'=>r=Bv (decide (e.code=w))∧st'=st:=by
 refine zz (q8 _) (qx Tryz.func25 rfl (Nat.le_of_ble_eq_true rfl) ?_)
 repeat' (first|apply qt|apply qj|apply qi|apply ql|apply qk|(apply q7;(iterate 3 exact rfl))|apply zi|(apply q5;exact Tryz.call14;exact zav _ _ he))
 exact qv rfl (zw rfl) ⟨rfl,_,rfl⟩
end Go.Proofs.YtejoahlpbckbeaaGreatDoor
