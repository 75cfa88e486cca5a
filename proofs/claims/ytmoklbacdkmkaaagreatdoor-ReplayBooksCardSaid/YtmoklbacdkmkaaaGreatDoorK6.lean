/- Contracts and plain facts that the closing text leans on (part 6). No condition of their own beyond those that each states. -/
import Derived.Test.YtmoklbacdkmkaaaGreatDoorK5
import Derived.LaidEql
import Derived.Stop.Asserts
import Derived.RowKitTokens
import Derived.Lib.IfaceEq
set_option maxRecDepth 100000
set_option linter.unusedVariables false
set_option linter.unusedSimpArgs false
namespace Go.Av
open Go Go.RowKit
def vt (hp:List (Nat×Option SR)):List (Nat×Option SR):=hp.map fun q=>(q.1,none)
def retS (P:Program) (fn:Func) (nx0:Nat) (r:SV) (hp1:List (Nat×Option SR)) (nx1:Nat) (e:Exit) (C:Conf):Prop:=
 match e with
 | .normal=>(match resV P fn.ntmps C fn.results.toList with
  |some v=>v.all (fun k=>Nat.blt k C.nx)=true∧EntA nx0 ⟨[(0,v)],C.hp,C.nx⟩ ⟨[(0,r)],hp1,nx1⟩
  |none=>False)
 | .ret=>(match resV P fn.ntmps C fn.results.toList with
  |some v=>v.all (fun k=>Nat.blt k C.nx)=true∧EntA nx0 ⟨[(0,v)],C.hp,C.nx⟩ ⟨[(0,r)],hp1,nx1⟩
  |none=>False)
 | _=>False
theorem q2f {hp:List (Nat×Option SR)} {k:Nat} {r:SR} (h:hpF hp k=some r):memN (vj hp) k=true:=by
 have:=kw (w9 h)
 exact List.any_eq_true.2 ⟨k,List.mem_map.2 ⟨_,this,rfl⟩,by simp⟩
theorem wv (hp:List (Nat×Option SR)):resF (vj hp) (hpF hp)=hpF hp:=by
 funext k
 unfold resF
 cases h:memN (vj hp) k with
 |true=>rfl
 |false=>
  cases h2:hpF hp k with
  |none=>rfl
  |some r=>rw [q2f h2] at h;simp at h
theorem qtn:∀ (hp:List (Nat×Option SR)) (k:Nat),lkS (vt hp) k=none∧lkS hp k=none∨lkS (vt hp) k=some none
 | [],_=>.inl ⟨rfl,rfl⟩
 |(i,x)::r,k=>by
  simp only [vt,List.map_cons,lkS]
  cases hb:Nat.beq i k with
  |true=>exact .inr rfl
  |false=>exact qtn r k
theorem qez (hp0 hp1:List (Nat×Option SR)):chF (hp1++vt hp0) (hpF hp0)=hpF hp1:=by
 funext k
 unfold chF
 rw [qco]
 unfold hpF
 cases h:lkS hp1 k with
 |some r=>rfl
 |none=>
  simp only
  rcases qtn hp0 k with⟨h1,h2⟩|h1
  ·rw [h1,h2]
  ·rw [h1]
theorem xc {E:Env} {f:FuncId} {fn:Func} {c:Code} (vs:List SV) (hp0:List (Nat×Option SR)) (nx0:Nat) (r:SV) (hp1:List (Nat×Option SR)) (nx1:Nat) (hf:E.P.funcs[f]? = some fn) (hb:fn.body=some c) (hn:Nat.ble vs.length fn.ntmps=true)
  (hc:okC ⟨jg 0 vs,hp0,nx0⟩=true) (hc1:okC ⟨[(0,r)],hp1,nx1⟩=true)
  (h:∀ S F ρ,numK 0 vs fun sl=>Sm E none fn.ntmps ⟨S,F,ρ,nx0,False⟩ c (retS E.P fn nx0 r hp1 nx1) ⟨sl,hp0,nx0⟩):vk E f vs nx0 (hpF hp0) ⟨r,vj hp0,hp1++vt hp0,nx1⟩:=fun ρ S hS=>by
 simp only [qm0] at h
 simp only [wv] at hS
 have hlen:(SV.evs ρ vs).length=vs.length:=by rw [v8,List.length_map]
 refine qp hf hb (by rw [hlen];exact Nat.le_of_ble_eq_true hn) ?_
 rw [List.append_nil]
 simp only [okC,Bool.and_eq_true] at hc hc1
 have hwhp:∀ k r,hpF hp0 k=some r→k<nx0∧r.all (fun k=>Nat.blt k nx0)=true:=fun k r hk=>by
  have:=List.all_eq_true.1 hc.2 _ (kw (w9 hk))
  simp only [Bool.and_eq_true] at this
  exact⟨vf this.1,this.2⟩
 have hst:SatC ⟨S,qcf hp0 ρ,ρ,nx0,False⟩ ⟨jg 0 vs,hp0,nx0⟩ ⟨argT (SV.evs ρ vs),S,[]⟩:=by
  refine⟨ρ,⟨nofun,List.nodup_nil,fun _ _=>rfl,Nat.le_refl _,nofun⟩,⟨fun d v hd=>?_,hS,fun k r hk o ho=>.inr ⟨k,r,hk,ho⟩,fun _ _ _=>rfl,Nat.le_refl _,fun d v hd=>?_,hwhp⟩⟩
  ·obtain⟨j,h1,h2⟩:=qcp hd
   have:(SV.evs ρ vs)[j]? = some (v.ev ρ):=by rw [v8,List.getElem?_map,h2];rfl
   rw [h1,Nat.zero_add]
   simp only [argT,List.getD,this,Option.getD_some]
  ·exact List.all_eq_true.1 hc.1 _ (kw hd)
 refine ((h S (qcf hp0 ρ) ρ).run _ hst).mono fun e s' ⟨C',hq,hs'⟩=>?_
 obtain⟨t,S',df⟩:=s'
 obtain⟨ρ2,hdf,hR⟩:=hs'
 simp only at hdf hR
 have fin:(match resV E.P fn.ntmps C' fn.results.toList with
  |some v=>v.all (fun k=>Nat.blt k C'.nx)=true∧EntA nx0 ⟨[(0,v)],C'.hp,C'.nx⟩ ⟨[(0,r)],hp1,nx1⟩
  |none=>False)→ARet E fn (fun r' S'=>∃ ρ',r'=r.ev ρ'∧qgf ρ S nx0 (hpF hp0) ⟨r,vj hp0,hp1++vt hp0,nx1⟩ ρ' S') ⟨t,S',df⟩:=fun h=>by
  split at h
  ·rename_i v hv
   obtain⟨hva,he⟩:=h
   obtain⟨σ,hrg,he⟩:=he.ent
   refine qgj hR hdf.dm hdf.nd fun S2 hR2=>?_
   have hR3:SatR S (qcf hp0 ρ) ⟨[(0,v)],C'.hp,C'.nx⟩ ρ2 (fun _=>v.ev ρ2) S2:=
    ⟨fun d u hd=>by
     simp only [lkS] at hd
     cases hb:Nat.beq 0 d with
     |true=>rw [hb] at hd;simp only [cond_true,Option.some.injEq] at hd;rw [hd]
     |false=>rw [hb] at hd;simp [lkS] at hd,hR2.hp,hR2.own,hR2.low,hR2.len,fun d u hd=>by
     simp only [lkS] at hd
     cases hb:Nat.beq 0 d with
     |true=>rw [hb] at hd;simp only [cond_true,Option.some.injEq] at hd;rw [← hd];exact hva
     |false=>rw [hb] at hd;simp [lkS] at hd,hR2.whp⟩
   obtain⟨t',hw,hR4⟩:=he.sat hR3
   have hrig:∀ k,k<nx0→renR σ ρ2 k = ρ k:=fun k hk=>by
    simp only [Bool.and_eq_true] at hrg
    unfold renR
    rw [qoz hrg.1 k hk]
    exact hdf.rig k hk
   have hrn:nx0≤nx1:=by
    simp only [Bool.and_eq_true] at hrg
    exact Nat.le_of_ble_eq_true hrg.2
   generalize renR σ ρ2 = ρ3 at hR4 hrig
   have h0:t' 0=r.ev ρ3:=hR4.sl 0 r rfl
   have hwk:=hw 0
   rw [h0] at hwk
   let ρ':Nat→AV:=fun k=>bif Nat.ble nx1 k then ρ k else ρ3 k
   have hρ':∀ k,Nat.blt k nx1=true→ρ' k = ρ3 k:=fun k hk=>by
    show (bif Nat.ble nx1 k then ρ k else ρ3 k)=_
    have:Nat.ble nx1 k=false:=by
     cases hb:Nat.ble nx1 k with
     |false=>rfl
     |true=>have:=Nat.le_of_ble_eq_true hb;have:=vf hk;omega
    rw [this]
    rfl
   have hra:r.all (fun k=>Nat.blt k nx1)=true:=List.all_eq_true.1 hc1.1 (0,r) (by simp)
   have hev:r.ev ρ'=r.ev ρ3:=qbp hρ' r hra
   refine qn rfl (wb (q0q hR2 hv) hwk) ⟨ρ',hev.symm,?_⟩
   have hwh:∀ k r,hpF hp1 k=some r→ρ' k = ρ3 k∧r.all (fun k=>Nat.blt k nx1)=true:=fun k r hk=>by
    obtain⟨g1,g2⟩:=hR4.whp k r hk
    exact⟨hρ' k (qal g1),g2⟩
   refine⟨fun k hk=>?_,?_,hR4.len,fun j hj hn=>?_,fun k r hk o ho=>?_⟩
   ·show (bif Nat.ble nx1 k then ρ k else ρ3 k)=_
    cases hb:Nat.ble nx1 k with
    |true=>rfl
    |false=>
     rcases hk with hk|hk
     ·exact hrig k hk
     ·have:=Nat.ble_eq_true_of_le hk
      simp only at this
      rw [this] at hb
      simp at hb
   ·simp only [wv,qez]
    refine⟨fun k r hk=>?_,fun k k' r r' hne h1 h2 o ho=>?_⟩
    ·obtain⟨g1,g2⟩:=hwh k r hk
     rw [g1]
     exact SR.ok_of g2 hρ' (hR4.hp.ok k r hk) fun _ _=>rfl
    ·rw [(hwh k r h1).1] at ho
     rw [(hwh k' r' h2).1]
     exact hR4.hp.sep k k' r r' hne h1 h2 o ho
   ·simp only [wv] at hn
    exact hR4.low j hj fun ⟨k,r,hk,hl⟩=>hn k r hk hl
   ·simp only [wv,qez] at hk ⊢
    rw [(hwh k r hk).1] at ho
    exact hR4.own k r hk o ho
  ·exact h.elim
 cases e with
 |normal=>exact fin hq
 |ret=>exact fin hq
 | _=>exact hq.elim
def newN:Nat→Nat→Nat→List (Nat×Nat)
 | _,_,0=>[]
 |a,b,m+1=>(a,b)::newN (a+1) (b+1) m
theorem qwz:∀ (m a b k:Nat),lkS (newN a b m) k=if a≤k∧k<a+m then some (b+(k - a)) else none
 | 0,a,b,k=>by rw [if_neg (by omega)];rfl
 |m+1,a,b,k=>by
  simp only [newN,lkS]
  by_cases h:a=k
  ·subst h
   simp
  ·rw [jx h,qwz m]
   simp only [cond_false]
   by_cases h2:a+1≤k∧k<a+1+m
   ·rw [if_pos h2,if_pos (by omega)]
    congr 1
    omega
   ·rw [if_neg h2,if_neg (by omega)]
def nmOf (σ : List (Nat×Nat)) (k:Nat):Nat:=match lkS σ k with
 |some j=>j
 |none=>0
def SR.ren (σ : List (Nat×Nat)):SR→SR
 | .cells T cs=>.cells T (SV.rens σ cs)
 | .tip sz T xs=>.tip sz T xs
 | .own sz T xs=>.own sz T xs
 | .obj P=>.obj P
def renO (σ : List (Nat×Nat)):Option SR→Option SR
 |some r=>some (r.ren σ)
 |none=>none
def renH (σ : List (Nat×Nat)):List (Nat×Option SR)→List (Nat×Option SR)
 | []=>[]
 |(k,r)::l=>(nmOf σ k,renO σ r)::renH σ l
def fltH (ks:List Nat):List (Nat×Option SR)→List (Nat×Option SR)
 | []=>[]
 |(k,r)::l=>bif memN ks k then (k,r)::fltH ks l else fltH ks l
def outH (ks:List Nat):List (Nat×Option SR):=ks.map fun k=>(k,none)
def qp7:List Nat→Bool
 | []=>true
 |k::r=> !memN r k && qp7 r
theorem q0d (ks:List Nat):∀ (hp:List (Nat×Option SR)) (k:Nat),lkS (fltH ks hp) k=bif memN ks k then lkS hp k else none
 | [],k=>by simp only [fltH,lkS];cases memN ks k <;> rfl
 |(i,r)::l,k=>by
  have ih:=q0d ks l k
  simp only [fltH]
  by_cases e:i=k
  ·subst e
   cases hm:memN ks i with
   |true=>simp [lkS]
   |false=>rw [hm] at ih;simp only [cond_false] at ih ⊢;exact ih
  ·cases hm:memN ks i with
   |true=>simp only [cond_true,lkS,jx e,cond_false];exact ih
   |false=>simp only [cond_false,lkS,jx e];exact ih
theorem q0b (ks:List Nat) (hp:List (Nat×Option SR)):hpF (fltH ks hp)=resF ks (hpF hp):=by
 funext k
 unfold hpF resF
 rw [q0d]
 cases memN ks k <;> rfl
theorem q0f {σ : List (Nat×Nat)}:∀ {hp:List (Nat×Option SR)} {j:Nat} {rr:SR},lkS (renH σ hp) j=some (some rr)→∃ k r,(k,some r)∈hp∧nmOf σ k=j∧rr=r.ren σ
 | [],j,rr,h=>by simp [renH,lkS] at h
 |(k,r)::l,j,rr,h=>by
  simp only [renH,lkS] at h
  cases hb:Nat.beq (nmOf σ k) j with
  |true=>
   rw [hb] at h
   simp only [cond_true,Option.some.injEq] at h
   cases r with
   |none=>simp [renO] at h
   |some r=>
    simp only [renO,Option.some.injEq] at h
    exact⟨k,r,by simp,Nat.eq_of_beq_eq_true hb,h.symm⟩
  |false=>
   rw [hb] at h
   obtain⟨k',r',h1,h2,h3⟩:=q0f h
   exact⟨k',r',List.mem_cons_of_mem _ h1,h2,h3⟩
theorem qs6:∀ {hp:List (Nat×Option SR)} {k:Nat} {r:SR},qp7 (vj hp)=true→(k,some r)∈hp→hpF hp k=some r
 | [],k,r,_,h=>by simp at h
 |(i,x)::l,k,r,hd,h=>by
  simp only [vj,List.map_cons,qp7,Bool.and_eq_true] at hd
  unfold hpF
  simp only [lkS]
  rcases List.mem_cons.1 h with e|e
  ·simp only [Prod.mk.injEq] at e
   obtain⟨rfl,rfl⟩:=e
   simp
  ·have hne:i≠k:=fun e'=>by
    subst e'
    have:memN (List.map Prod.fst l) i=true:=List.any_eq_true.2 ⟨i,List.mem_map.2 ⟨_,e,rfl⟩,by simp⟩
    rw [this] at hd
    simp at hd
   rw [jx hne]
   exact qs6 hd.2 e
theorem q0e:∀ (ks:List Nat) (j:Nat),lkS (outH ks) j=bif memN ks j then some none else none
 | [],j=>rfl
 |k::r,j=>by
  have ih:=q0e r j
  simp only [outH,List.map_cons,lkS,memN,List.any_cons]
  by_cases e:k=j
  ·subst e;simp
  ·rw [jx e,jx (fun h=>e h.symm)]
   exact ih
theorem qw6 {α : Type}:∀ {l:List α} {i0 i:Nat} {v : α},l[i]? = some v→lkS (jg i0 l) (i0+i)=some v
 | [],_,_,_,h=>by simp at h
 |x::r,i0,0,v,h=>by
  simp only [List.getElem?_cons_zero,Option.some.injEq] at h
  subst h
  simp [jg,lkS]
 |x::r,i0,i+1,v,h=>by
  simp only [jg,lkS]
  rw [jx (by omega),show i0+(i+1)=i0+1+i by omega]
  exact qw6 (by simpa using h)
theorem zcs {E:Env} {f:FuncId} {vs0:List SV} {hp0:List (Nat×Option SR)} {nx0:Nat} {r:SV} {hp1:List (Nat×Option SR)} {nx1:Nat} (h:vk E f vs0 nx0 (hpF hp0) ⟨r,vj hp0,hp1++vt hp0,nx1⟩)
  (σ : List (Nat×Nat)) {hpU:List (Nat×Option SR)} {vs:List SV} {nx:Nat} (hl:vs.length=vs0.length) (hc:okC ⟨jg 0 vs,fltH (σ.map Prod.snd) hpU,nx⟩=true)
  (he:EntC σ ⟨jg 0 vs,fltH (σ.map Prod.snd) hpU,nx⟩ ⟨jg 0 vs0,hp0,nx0⟩) (hc1:okC ⟨[(0,r)],hp1,nx1⟩=true)
  (hk:(qp7 (vj hp1) && hp1.all (fun q=>(lkS (newN nx0 nx (nx1 - nx0) ++ σ) q.1).isSome) && σ.all (fun q=>Nat.blt q.1 nx0 && Nat.blt q.2 nx) && Nat.ble nx0 nx1)=true) :
  vk E f vs nx (hpF hpU) ⟨r.ren (newN nx0 nx (nx1 - nx0) ++ σ),σ.map Prod.snd,renH (newN nx0 nx (nx1 - nx0) ++ σ) hp1++outH (σ.map Prod.snd),nx+(nx1 - nx0)⟩:=fun ρ S hS=>by
 simp only at hS
 simp only [Bool.and_eq_true] at hk
 obtain⟨⟨⟨hd,hsm⟩,hσ⟩,hn⟩:=hk
 have hn:=Nat.le_of_ble_eq_true hn
 simp only [okC,Bool.and_eq_true] at hc hc1
 generalize hks : σ.map Prod.snd=ks at hS hc he ⊢
 obtain⟨m,hm⟩:∃ m,m=nx1 - nx0:=⟨_,rfl⟩
 rw [← hm] at hsm ⊢
 have hR:SatR S (qcf (fltH ks hpU) ρ) ⟨jg 0 vs,fltH ks hpU,nx⟩ ρ (argT (SV.evs ρ vs)) S:=by
  refine⟨fun d v hd=>?_,by simp only [q0b];exact hS,fun k r hk o ho=>.inr ⟨k,r,hk,ho⟩,fun _ _ _=>rfl,Nat.le_refl _,fun d v hd=>List.all_eq_true.1 hc.1 _ (kw hd),fun k r hk=>?_⟩
  ·obtain⟨j,h1,h2⟩:=qcp hd
   have:(SV.evs ρ vs)[j]? = some (v.ev ρ):=by rw [v8,List.getElem?_map,h2];rfl
   rw [h1,Nat.zero_add]
   simp only [argT,List.getD,this,Option.getD_some]
  ·have:=List.all_eq_true.1 hc.2 _ (kw (w9 hk))
   simp only [Bool.and_eq_true] at this
   exact⟨vf this.1,this.2⟩
 obtain⟨t',hw,hR'⟩:=he.sat hR
 have hrc:∀ k j,lkS σ k=some j→renR σ ρ k = ρ j:=fun k j e=>by unfold renR;rw [e]
 have hrn:∀ k,lkS σ k=none→renR σ ρ k=zh:=fun k e=>by unfold renR;rw [e]
 -- where a canonical resource lies
 have foot:∀ k r,hpF hp0 k=some r→∀ o,zn (renR σ ρ k)=some o→∃ j r',resF ks (hpF hpU) j=some r'∧zn (ρ j)=some o:=fun k r hk o ho=>by
  have hE:=qe4 he.2.1 (w9 hk)
  simp only [q0b] at hE
  unfold entR at hE
  cases hl:lkS σ k with
  |none=>
   rw [hrn k hl] at ho
   simp [zn] at ho
  |some j=>
   rw [hrc k j hl] at ho
   rw [hl] at hE
   cases hj:resF ks (hpF hpU) j with
   |none=>cases r <;> (simp only [hj] at hE)
   |some r'=>exact⟨j,r',hj,ho⟩
 have hS0:SatF S (renR σ ρ) (hpF hp0):=hR'.hp
 refine qu6 (ys:=SV.evs (renR σ ρ) vs0) (by simp [v8,hl]) (fun i x y hx hy=>?_) ((h (renR σ ρ) S (by simp only [wv];exact hS0)).mono fun r' S' ⟨ρc,hr,hp⟩=>?_)
 ·have h1:=hw i
  simp only [v8,List.getElem?_map] at hy hx
  cases hv:vs0[i]? with
  |none=>rw [hv] at hy;simp at hy
  |some v=>
   rw [hv] at hy
   simp only [Option.map_some,Option.some.injEq] at hy
   have h2:=hR'.sl i v (by have:=qw6 (i0:=0) hv;rwa [Nat.zero_add] at this)
   rw [h2,hy] at h1
   have:argT (SV.evs ρ vs) i=x:=by simp only [argT,List.getD,v8,List.getElem?_map,hx,Option.getD_some]
   rw [this] at h1
   exact h1
 ·let ρ':Nat→AV:=fun j=>bif Nat.ble nx j && Nat.blt j (nx+m) then ρc (nx0+(j - nx)) else ρ j
  have hold:∀ j,(j<nx∨nx+m≤j)→ρ' j = ρ j:=fun j hj=>by
   show (bif Nat.ble nx j && Nat.blt j (nx+m) then ρc (nx0+(j - nx)) else ρ j) = ρ j
   have:(Nat.ble nx j && Nat.blt j (nx+m))=false:=by
    cases hb:(Nat.ble nx j && Nat.blt j (nx+m)) with
    |false=>rfl
    |true=>
     simp only [Bool.and_eq_true] at hb
     have h1:=Nat.le_of_ble_eq_true hb.1
     have h2:=vf hb.2
     omega
   rw [this]
   rfl
  have hnew:∀ i,i<m→ρ' (nx+i) = ρc (nx0+i):=fun i hi=>by
   show (bif Nat.ble nx (nx+i) && Nat.blt (nx+i) (nx+m) then ρc (nx0+(nx+i - nx)) else ρ (nx+i))=_
   have h1:Nat.ble nx (nx+i)=true:=Nat.ble_eq_true_of_le (by omega)
   have h2:Nat.blt (nx+i) (nx+m)=true:=qal (by omega)
   rw [h1,h2,show nx+i - nx=i by omega]
   rfl
  have hσj:∀ k j,lkS σ k=some j→k<nx0∧j<nx:=fun k j e=>by
   have:=List.all_eq_true.1 hσ _ (kw e)
   simp only [Bool.and_eq_true] at this
   exact⟨vf this.1,vf this.2⟩
  have hro:∀ k,k<nx0→ρc k=renR σ ρ k:=fun k hk=>hp.old k (.inl hk)
  have key:∀ k,k<nx1→renR (newN nx0 nx m ++ σ) ρ' k = ρc k:=fun k hk=>by
   have e:renR (newN nx0 nx m ++ σ) ρ' k=match lkS (newN nx0 nx m ++ σ) k with|some j=> ρ' j|none=>zh:=rfl
   rw [e,qco,qwz]
   by_cases hkn:nx0≤k
   ·rw [if_pos ⟨hkn,by omega⟩]
    simp only
    rw [hnew _ (by omega),show nx0+(k - nx0)=k by omega]
   ·rw [if_neg (by omega),hro k (by omega)]
    simp only
    cases hl:lkS σ k with
    |none=>rw [hrn k hl]
    |some j=>
     rw [hrc k j hl]
     exact hold j (.inl (hσj k j hl).2)
  have keyj:∀ k,k<nx1→(lkS (newN nx0 nx m ++ σ) k).isSome=true→ρ' (nmOf (newN nx0 nx m ++ σ) k) = ρc k:=fun k hk hs=>by
   rw [← key k hk]
   unfold renR nmOf
   cases hl:lkS (newN nx0 nx m ++ σ) k with
   |none=>rw [hl] at hs;simp at hs
   |some j=>rfl
  have res:∀ j rr,chF (renH (newN nx0 nx m ++ σ) hp1++outH ks) (resF ks (hpF hpU)) j=some rr→∃ k r,hpF hp1 k=some r∧nmOf (newN nx0 nx m ++ σ) k=j∧rr=r.ren (newN nx0 nx m ++ σ)∧ρ' j = ρc k∧r.all (fun k=>Nat.blt k nx1)=true:=fun j rr hj=>by
   unfold chF at hj
   rw [qco] at hj
   cases hl:lkS (renH (newN nx0 nx m ++ σ) hp1) j with
   |some x=>
    rw [hl] at hj
    simp only at hj
    subst hj
    obtain⟨k,r,h1,h2,h3⟩:=q0f hl
    have h4:=List.all_eq_true.1 hc1.2 _ h1
    simp only [Bool.and_eq_true] at h4
    have h5:=List.all_eq_true.1 hsm _ h1
    refine⟨k,r,qs6 hd h1,h2,h3,?_,h4.2⟩
    rw [← h2]
    exact keyj k (vf h4.1) h5
   |none=>
    rw [hl] at hj
    simp only [q0e] at hj
    cases hmm:memN ks j with
    |true=>rw [hmm] at hj;simp at hj
    |false=>
     rw [hmm] at hj
     simp [resF,hmm] at hj
  have hra:r.all (fun k=>Nat.blt k nx1)=true:=List.all_eq_true.1 hc1.1 (0,r) (by simp)
  refine⟨ρ',?_,fun k hk=>hold k hk,⟨fun j rr hj=>?_,fun j j' rr rr' hne h1 h2 o ho=>?_⟩,hp.len,fun j hj hnj=>?_,fun j rr hj o ho=>?_⟩
  ·rw [hr]
   simp only
   rw [qre]
   exact (qbp (fun k hk=>key k (vf hk)) r hra).symm
  ·obtain⟨k,r0,h1,h2,rfl,h4,h5⟩:=res j rr hj
   rw [h4]
   have hsat:=hp.sat
   simp only [wv,qez] at hsat
   have hok:=hsat.ok k r0 h1
   cases r0 with
   |cells T cs=>
    obtain⟨o,v,g1,g2,g3⟩:=hok
    refine⟨o,v,g1,?_,g3⟩
    rw [qe8,qbi (fun k hk=>key k (vf hk)) cs h5]
    exact g2
   |tip sz T xs=>exact hok
   |own sz T xs=>exact hok
   |obj P=>exact hok
  ·obtain⟨k,r0,h3,h4,_,h5,_⟩:=res j rr h1
   obtain⟨k',r0',h3',h4',_,h5',_⟩:=res j' rr' h2
   rw [h5] at ho
   rw [h5']
   have hsat:=hp.sat
   simp only [wv,qez] at hsat
   exact hsat.sep k k' r0 r0' (fun e=>hne (by rw [← h4,← h4',e])) h3 h3' o ho
  ·refine hp.fr j hj fun k r0 hk hlo=>?_
   simp only [wv] at hk
   obtain⟨j',r',g1,g2⟩:=foot k r0 hk j hlo
   exact hnj j' r' g1 g2
  ·obtain⟨k,r0,h1,h2,_,h4,_⟩:=res j rr hj
   rw [h4] at ho
   have hlc:=hp.loc k r0 (by simp only [wv,qez];exact h1) o ho
   rcases hlc with g | ⟨k',r',g1,g2⟩
   ·exact .inl g
   ·simp only [wv] at g1
    obtain⟨j',r'',g3,g4⟩:=foot k' r' g1 o g2
    exact .inr ⟨j',r'',g3,g4⟩
def useW (vs0:List SV) (hp0:List (Nat×Option SR)) (nx0:Nat) (r:SV) (hp1:List (Nat×Option SR)) (nx1:Nat) (hpU:List (Nat×Option SR)) (vs:List SV) (nx:Nat) (k:Ef→Prop):Prop:=
 fcP (addS [] (prsL vs0 vs)) fun a=>fcP (addS a (sigH (hpF hpU) a hp0)) fun σ=>
  vs.length=vs0.length∧okC ⟨jg 0 vs,fltH (σ.map Prod.snd) hpU,nx⟩=true∧EntC σ ⟨jg 0 vs,fltH (σ.map Prod.snd) hpU,nx⟩ ⟨jg 0 vs0,hp0,nx0⟩∧okC ⟨[(0,r)],hp1,nx1⟩=true ∧
   (qp7 (vj hp1) && hp1.all (fun q=>(lkS (newN nx0 nx (nx1 - nx0) ++ σ) q.1).isSome) && σ.all (fun q=>Nat.blt q.1 nx0 && Nat.blt q.2 nx) && Nat.ble nx0 nx1)=true ∧
   k ⟨r.ren (newN nx0 nx (nx1 - nx0) ++ σ),σ.map Prod.snd,renH (newN nx0 nx (nx1 - nx0) ++ σ) hp1++outH (σ.map Prod.snd),nx+(nx1 - nx0)⟩
theorem jj {E:Env} {f:FuncId} {vs0:List SV} {hp0:List (Nat×Option SR)} {nx0:Nat} {r:SV} {hp1:List (Nat×Option SR)} {nx1:Nat} (h:vk E f vs0 nx0 (hpF hp0) ⟨r,vj hp0,hp1++vt hp0,nx1⟩) {hpU:List (Nat×Option SR)} {vs:List SV} {nx:Nat} {k:Ef→Prop}
  (hw:useW vs0 hp0 nx0 r hp1 nx1 hpU vs nx k):∃ e,vk E f vs nx (hpF hpU) e∧k e:=by
 unfold useW at hw
 simp only [qv9] at hw
 obtain⟨h1,h2,h3,h4,h5,h6⟩:=hw
 exact⟨_,zcs h _ h1 h2 h3 h4 h5,h6⟩
theorem zaa {l m:List AV} (hl:l.length=m.length) (h:∀ (i:Nat) (x y:AV),l[i]? = some x→m[i]? = some y→Wk x y):Wk (.pp l) (.pp m):=fun G v hr=>by
 cases hr with
 |pp _ b off pub hp hlen hr=>
  refine .pp m b off pub hp (by omega) fun i y z hy hz=>?_
  have hi:i<l.length:=by have:=lt_of_getElem? hy;omega
  have hx:l[i]? = some l[i]:=List.getElem?_eq_getElem hi
  exact h i _ y hx hy G z (hr i _ z hx hz)
theorem qvp {E:Env} {fn:Func} {R:AV→List AObj→Prop} {s:AS} {d o ver:Nat} {T:TypeId} {cs xs:List AV} (hi:s.t d = .bx o ver 0) (ho:s.st[o]? = some (.cells ver T cs)) (hw:Wk (.pp cs) (.pp xs))
  (h:ARet E fn R ⟨Av.put s.t d (.pp xs),s.st.set o .dead,s.df⟩):ARet E fn R s:=
 ⟨fun B0 w0 G a w hL hI R2 hR=>by
  obtain⟨G1,h1,h2⟩:=hI.pub hi ho
  refine h.run B0 w0 G1 a w hL ⟨h2.agree,h2.defers,h2.size,fun j y hy=>?_⟩ R2 fun v G' r st' w' hG=>hR v G' r st' w' (h1.trans hG)
  have hj:=h2.tmps j y hy
  by_cases e:j=d
  ·subst e
   simp only [wi] at hj ⊢
   exact hw G1 y hj
  ·simp only at hj ⊢
   rw [yh _ _ _ _ e] at hj ⊢
   exact hj⟩
theorem q3r {E:Env} {fn:Func} {R:AV→List AObj→Prop} {s:AS} {d o ver o2 ver2 sz cap:Nat} {T T2:TypeId} {cs xs ys pad:List AV} (hi:s.t d = .bx o ver 0) (ho:s.st[o]? = some (.cells ver T cs)) (ho2:s.st[o2]? = some (.cells ver2 T2 (flat ys++pad))) (hne:o≠o2) (hw:∀ y∈ys,y.cells.length=sz) (hc:ys.length≤cap) (hl:cs.length=xs.length)
  (hx:∀ (i:Nat) (x y:AV),cs[i]? = some x→xs[i]? = some y→Wk x y∨(x = .os o2 ver2 0 ys.length cap∧y = .sl sz ys none)) (h:ARet E fn R ⟨Av.put s.t d (.pp xs),(s.st.set o .dead).set o2 .dead,s.df⟩):ARet E fn R s:=
 ⟨fun B0 w0 G a w hL hI R2 hR=>by
  obtain⟨G1,h1,h2⟩:=hI.pub hi ho
  have ho3:(s.st.set o .dead)[o2]? = some (.cells ver2 T2 (flat ys++pad)):=(List.getElem?_set_ne hne).trans ho2
  obtain⟨vs,hle,hA,hv,hp,hl2,hr⟩:=h2.agree.pubOb ho3
  refine h.run B0 w0 _ a w hL ⟨hA,h2.defers_mono hle,h2.size,fun j y hy=>?_⟩ R2 fun v G' r st' w' hG=>hR v G' r st' w' (h1.trans (hle.trans hG))
  have hj:=(h2.tmps j y hy).mono hle
  by_cases e:j=d
  ·subst e
   simp only [wi] at hj ⊢
   cases hj with
   |pp _ b off pub hp2 hlen hrel=>
    refine .pp xs b off pub hp2 (by omega) fun i z u hz hu=>?_
    have hi:i<cs.length:=by have:=lt_of_getElem? hz;omega
    have hg:cs[i]? = some cs[i]:=List.getElem?_eq_getElem hi
    have hrl:=hrel i _ u hg hu
    rcases hx i _ z hg hz with hw1 | ⟨e1,rfl⟩
    ·exact hw1 _ _ hrl
    ·rw [e1] at hrl
     cases hrl with
     |os _ _ _ _ bl _ hn hv' hb=>
      have hb:=hb hv
      subst hb
      refine .sl sz ys none _ 0 cap vs hp hw (by rw [← hl2];simp) (fun k x y g1 g2=>hr k x y (by rw [List.getElem?_append_left (lt_of_getElem? g1)];exact g1) (by simpa using g2)) (fun t ht=>by simp at ht) hc
  ·simp only at hj ⊢
   rw [yh _ _ _ _ e] at hj ⊢
   exact hj⟩
theorem zag {E:Env} {fn:Func} {R:AV→List AObj→Prop} {s:AS} {d o ver sz cap:Nat} {T:TypeId} {ys pad:List AV} (hi:s.t d = .os o ver 0 ys.length cap) (ho:s.st[o]? = some (.cells ver T (flat ys++pad))) (hw:∀ y∈ys,y.cells.length=sz) (hc:ys.length≤cap)
  (h:ARet E fn R ⟨Av.put s.t d (.sl sz ys none),s.st.set o .dead,s.df⟩):ARet E fn R s:=
 ⟨fun B0 w0 G a w hL hI R2 hR=>by
  obtain⟨G1,h1,h2⟩:=hI.osPub (xs:=ys) (sz:=sz) hi ho rfl hc hw (by rw [List.length_append,zt hw];omega) (by rw [List.drop_zero,← zt hw,List.take_left])
  exact h.run B0 w0 G1 a w hL h2 R2 fun v G' r st' w' hG=>hR v G' r st' w' (h1.trans hG)⟩
def q5j (H:Nat→Option SR):SV→Option (Nat×Nat×List AV)
 | .tp k=>(match H k with
  |some (.own sz _ ys)=>some (k,sz,ys)
  | _=>none)
 | _=>none
def qq4 (H:Nat→Option SR):List SV→Option (Nat×Nat×List AV)
 | []=>none
 |c::r=>(match q5j H c with
  |some x=>some x
  |none=>qq4 H r)
theorem qxg {H:Nat→Option SR} {j sz:Nat} {ys:List AV}:∀ {cs:List SV},qq4 H cs=some (j,sz,ys)→∃ T,H j=some (.own sz T ys)
 | [],h=>by simp [qq4] at h
 |c::r,h=>by
  simp only [qq4] at h
  split at h
  ·rename_i x hx
   simp only [Option.some.injEq] at h
   subst h
   unfold q5j at hx
   split at hx
   ·split at hx
    ·rename_i hk
     simp only [Option.some.injEq,Prod.mk.injEq] at hx
     obtain⟨rfl,rfl,rfl⟩:=hx
     exact⟨_,hk⟩
    ·simp at hx
   ·simp at hx
  ·exact qxg (cs:=r) h
def frzJ (H:Nat→Option SR) (j sz:Nat) (ys:List AV):List SV→Option (List AV)
 | []=>some []
 |c::r=>(match (match c with
   | .tp k=>bif Nat.beq k j then some (.sl sz ys none) else frz H (.tp k)
   |c=>frz H c),frzJ H j sz ys r with
  |some x,some l=>some (x::l)
  | _,_=>none)
theorem qz9 {S:List AObj} {ρ : Nat→AV} {H:Nat→Option SR} (hS:SatF S ρ H) {j sz:Nat} {ys:List AV}:∀ (cs:List SV) (xs:List AV),frzJ H j sz ys cs=some xs→(SV.evs ρ cs).length=xs.length∧∀ (i:Nat) (x y:AV),(SV.evs ρ cs)[i]? = some x→xs[i]? = some y→Wk x y∨(x=tpAt (ρ j)∧y = .sl sz ys none)
 | [],xs,h=>by simp only [frzJ,Option.some.injEq] at h;subst h;exact⟨rfl,by simp [SV.evs]⟩
 |c::r,xs,h=>by
  simp only [frzJ] at h
  split at h
  ·rename_i x l h1 h2
   simp only [Option.some.injEq] at h
   subst h
   obtain⟨g1,g2⟩:=qz9 hS r l h2
   refine⟨by simp [SV.evs,g1],fun i a b ha hb=>?_⟩
   cases i with
   |zero=>
    simp only [SV.evs,List.getElem?_cons_zero,Option.some.injEq] at ha hb
    subst ha
    subst hb
    split at h1
    ·rename_i k
     cases hkj:Nat.beq k j with
     |true=>
      rw [hkj] at h1
      simp only [cond_true,Option.some.injEq] at h1
      rw [Nat.eq_of_beq_eq_true hkj]
      exact .inr ⟨rfl,h1.symm⟩
     |false=>
      rw [hkj] at h1
      exact .inl (qhn hS _ _ h1)
    ·exact .inl (qhn hS _ _ h1)
   |succ i=>exact g2 i a b (by simpa [SV.evs] using ha) (by simpa using hb)
  ·simp at h
def pubK (k:Conf→Prop):List ResultVar→Conf→Prop
 | [],C=>k C
 | .tmp t::r,C=>(match lkS C.sl t with
  |some (.bx b 0)=>(match hpF C.hp b with
   |some (.cells _ cs)=>(match qq4 (hpF C.hp) cs with
    |some (j,sz,ys)=>(match frzJ (hpF C.hp) j sz ys cs with
     |some xs=>pubK k r ⟨(t,.a (.pp xs))::C.sl,(j,none)::(b,none)::C.hp,C.nx⟩
     |none=>pubK k r C)
    |none=>(match frzs (hpF C.hp) cs with
     |some xs=>pubK k r ⟨(t,.a (.pp xs))::C.sl,(b,none)::C.hp,C.nx⟩
     |none=>pubK k r C))
   | _=>pubK k r C)
  |some (.tp b)=>(match hpF C.hp b with
   |some (.own sz _ ys)=>pubK k r ⟨(t,.a (.sl sz ys none))::C.sl,(b,none)::C.hp,C.nx⟩
   | _=>pubK k r C)
  | _=>pubK k r C)
 | _::r,C=>pubK k r C
theorem SatR.drop {S0:List AObj} {F:Nat→Prop} {C:Conf} {ρ t:Nat→AV} {S:List AObj} (h:SatR S0 F C ρ t S) {b o:Nat} {q:SR} (hb:hpF C.hp b=some q) (ho:∀ o',zn (ρ b)=some o'→o'=o) (hd:zn (ρ b)=some o∨S.set o .dead=S) :
  SatR S0 F ⟨C.sl,(b,none)::C.hp,C.nx⟩ ρ t (S.set o .dead):=by
 have hget:∀ k r,hpF ((b,none)::C.hp) k=some r→k≠b∧hpF C.hp k=some r:=fun k r hk=>by
  unfold hpF at hk ⊢
  simp only [lkS] at hk
  by_cases e:b=k
  ·subst e;simp at hk
  ·rw [jx e] at hk
   exact⟨fun h=>e h.symm,hk⟩
 rcases hd with hd|hd
 ·refine⟨h.sl,⟨fun k r hk=>?_,fun k k' r r' hne hk hk'=>h.hp.sep k k' r r' hne (hget k r hk).2 (hget k' r' hk').2⟩,fun k r hk=>h.own k r (hget k r hk).2,fun j hj hF=>?_,by simpa using h.len,h.wsl,fun k r hk=>h.whp k r (hget k r hk).2⟩
  ·obtain⟨hne,hk⟩:=hget k r hk
   refine SR.ok_of (f:=fun _=>true) (SR.all_mono (fun _ _=>rfl) r (h.whp k r hk).2) (fun _ _=>rfl) (h.hp.ok k r hk) fun j hj=>?_
   have:o≠j:=fun e=>h.hp.sep b k _ r (fun e=>hne e.symm) hb hk o hd (e▸hj)
   rw [List.getElem?_set_ne this]
  ·have:o≠j:=fun e=>by
    rcases h.own b _ hb o hd with g|g
    ·omega
    ·exact hF (e▸g)
   rw [List.getElem?_set_ne this]
   exact h.low j hj hF
 ·rw [hd]
  exact⟨h.sl,⟨fun k r hk=>h.hp.ok k r (hget k r hk).2,fun k k' r r' hne hk hk'=>h.hp.sep k k' r r' hne (hget k r hk).2 (hget k' r' hk').2⟩,fun k r hk=>h.own k r (hget k r hk).2,h.low,h.len,h.wsl,fun k r hk=>h.whp k r (hget k r hk).2⟩
theorem SatR.slot {S0:List AObj} {F:Nat→Prop} {C:Conf} {ρ t:Nat→AV} {S:List AObj} (h:SatR S0 F C ρ t S) (d:Nat) {y:AV}:SatR S0 F ⟨(d,.a y)::C.sl,C.hp,C.nx⟩ ρ (Av.put t d y) S:=by
 refine⟨fun x v hx=>?_,h.hp,h.own,h.low,h.len,fun x v hx=>?_,h.whp⟩
 ·simp only [lkS] at hx
  by_cases e:d=x
  ·subst e
   simp at hx
   subst hx
   exact wi _ _ _
  ·rw [jx e] at hx
   simp only [cond_false] at hx
   exact (yh _ _ _ _ (fun h=>e h.symm)).trans (h.sl x v hx)
 ·simp only [lkS] at hx
  by_cases e:d=x
  ·subst e
   simp at hx
   subst hx
   rfl
  ·rw [jx e] at hx
   exact h.wsl x v hx
theorem SatR.pub {S0:List AObj} {F:Nat→Prop} {C:Conf} {ρ t:Nat→AV} {S:List AObj} (h:SatR S0 F C ρ t S) {d b o:Nat} {T:TypeId} {cs:List SV} {xs:List AV} (hb:hpF C.hp b=some (.cells T cs)) (ho:zn (ρ b)=some o) :
  SatR S0 F ⟨(d,.a (.pp xs))::C.sl,(b,none)::C.hp,C.nx⟩ ρ (Av.put t d (.pp xs)) (S.set o .dead):=
 (h.drop hb (fun o' ho'=>by rw [ho] at ho';simpa using ho'.symm) (.inl ho)).slot d
theorem zah {E:Env} {fn:Func} {R:AV→List AObj→Prop} {s:AS} {d:Nat} {x r:AV} (hi:s.t d=x) (hw:Wk x r) (h:ARet E fn R ⟨Av.put s.t d r,s.st,s.df⟩):ARet E fn R s:=
 ⟨fun B0 w0 G a w hL hI R2 hR=>h.run B0 w0 G a w hL ⟨hI.agree,hI.defers,hI.size,fun j y hy=>by
  have hj:=hI.tmps j y hy
  by_cases e:j=d
  ·subst e
   simp only [wi]
   rw [hi] at hj
   exact hw G y hj
  ·simp only
   rw [yh _ _ _ _ e]
   exact hj⟩ R2 hR⟩
theorem qad {E:Env} {fn:Func} {R:AV→List AObj→Prop} {S0:List AObj} {F:Nat→Prop} {ρ : Nat→AV} {k:Conf→Prop} (hk:∀ C t S,k C→SatR S0 F C ρ t S→ARet E fn R ⟨t,S,[]⟩):∀ {l:List ResultVar} {C:Conf} {t:Nat→AV} {S:List AObj},pubK k l C→SatR S0 F C ρ t S→ARet E fn R ⟨t,S,[]⟩
 | [],C,t,S,h,hR=>hk C t S h hR
 | .cell _ _::r,C,t,S,h,hR=>qad hk (l:=r) h hR
 | .tmp d::r,C,t,S,h,hR=>by
  simp only [pubK] at h
  split at h
  ·rename_i b hd
   split at h
   ·rename_i T cs hb
    obtain⟨o,v,e1,e2,e3⟩:=hR.hp.ok b _ hb
    have ht:=hR.sl d _ hd
    simp only [SV.ev,e1,bxAt] at ht
    split at h
    ·rename_i j sz ys hj
     split at h
     ·rename_i xs hx
      obtain⟨T2,hj⟩:=qxg hj
      obtain⟨w1,w2⟩:=qz9 hR.hp cs xs hx
      have hbj:b≠j:=fun e=>by subst e;rw [hb] at hj;simp at hj
      have hP:=hR.pub (d:=d) (xs:=xs) hb (by rw [e1];rfl)
      have hj2:hpF ((b,none)::C.hp) j=some (.own sz T2 ys):=by
       unfold hpF at hj ⊢
       simp only [lkS,jx hbj,cond_false]
       exact hj
      rcases hR.hp.ok j _ hj with⟨rfl,f1⟩ | ⟨o2,ver2,cap,pad,f1,f2,f3,f4,f5,f6⟩
      ·refine qvp ht e2 (zaa w1 fun i x y hx hy=>?_) (qad hk (l:=r) h ?_)
       ·rcases w2 i x y hx hy with g | ⟨g1,g2⟩
        ·exact g
        ·subst g1 g2
         unfold tpAt
         rw [f1.one]
         exact f1.wk sz
       ·have:=hP.drop (o:=S.length) hj2 (fun o' ho'=>by rw [f1.loc] at ho';simp at ho') (.inr (List.set_eq_of_length_le (by simp)))
        rwa [List.set_eq_of_length_le (by simp)] at this
      ·have hne:o≠o2:=fun e=>hR.hp.sep b j _ _ hbj hb hj o (by rw [e1];rfl) (by rw [f1,e];rfl)
       refine q3r ht e2 f2 hne f4 f5 w1 (fun i x y hx hy=>?_) (qad hk (l:=r) h (hP.drop hj2 (fun o' ho'=>?_) (.inl (by rw [f1];rfl))))
       ·rcases w2 i x y hx hy with g | ⟨g1,g2⟩
        ·exact .inl g
        ·exact .inr ⟨by rw [g1,f1];rfl,g2⟩
       ·rw [f1] at ho'
        simpa [zn] using ho'.symm
     ·exact qad hk (l:=r) h hR
    ·split at h
     ·rename_i xs hx
      obtain⟨w1,w2⟩:=qdz hR.hp cs xs hx
      exact qvp ht e2 (zaa w1 w2) (qad hk (l:=r) h (hR.pub hb (by rw [e1];rfl)))
     ·exact qad hk (l:=r) h hR
   ·exact qad hk (l:=r) h hR
  ·rename_i b hd
   split at h
   ·rename_i sz T ys hb
    have ht:=hR.sl d _ hd
    have hok:=hR.hp.ok b _ hb
    simp only [SV.ev,qo8 hok] at ht
    rcases hok with⟨rfl,f1⟩ | ⟨o,ver,cap,pad,f1,f2,f3,f4,f5,f6⟩
    ·have hP:=hR.drop (o:=S.length) hb (fun o' ho'=>by rw [f1.loc] at ho';simp at ho') (.inr (List.set_eq_of_length_le (by simp)))
     rw [List.set_eq_of_length_le (by simp)] at hP
     exact zah ht (f1.wk sz) (qad hk (l:=r) h (hP.slot d))
    ·rw [f1] at ht
     have hP:=hR.drop (o:=o) hb (fun o' ho'=>by rw [f1] at ho';simpa [zn] using ho'.symm) (.inl (by rw [f1];rfl))
     exact zag ht f2 f4 f5 (qad hk (l:=r) h (hP.slot d))
   ·exact qad hk (l:=r) h hR
  ·exact qad hk (l:=r) h hR
def retP (P:Program) (fn:Func) (r0:AV) (e:Exit) (C:Conf):Prop:=
 match e with
 | .normal=>pubK (fun C=>ansW P fn C fun y=>Tl y r0) fn.results.toList C
 | .ret=>pubK (fun C=>ansW P fn C fun y=>Tl y r0) fn.results.toList C
 | _=>False
theorem qox {E:Env} {f:FuncId} {fn:Func} {c:Code} {args:List AV} {st:List AObj} {r0:AV} (vs:List SV) (hp:Pure r0) (hf:E.P.funcs[f]? = some fn) (hb:fn.body=some c) (hn:Nat.ble args.length fn.ntmps=true) (hv:∀ ρ,SV.evs ρ vs=args) (hc:okC ⟨jg 0 vs,[],0⟩=true)
  (h:∀ S0,numK 0 vs fun sl=>Sm E none fn.ntmps ⟨S0,fun _=>False,fun _=>zh,0,False⟩ c (retP E.P fn r0) ⟨sl,[],0⟩):qm E f args st fun r st'=>r=r0∧st'=st:=by
 simp only [qm0] at h
 refine qy hp (qp hf hb (Nat.le_of_ble_eq_true hn) ?_)
 have hst:SatC ⟨st++[],fun _=>False,fun _=>zh,0,False⟩ ⟨jg 0 vs,[],0⟩ ⟨argT args,st++[],[]⟩:=by
  refine⟨fun _=>zh,⟨nofun,List.nodup_nil,fun _ _=>rfl,Nat.le_refl _,nofun⟩,⟨fun d v hd=>?_,⟨fun k r hk=>?_,fun k k' r r' _ hk=>?_⟩,fun k r hk=>?_,fun _ _ _=>rfl,Nat.le_refl _,fun d v hd=>?_,fun k r hk=>?_⟩⟩
  ·obtain⟨j,h1,h2⟩:=qcp hd
   have:args[j]? = some (v.ev fun _=>zh):=by rw [← hv fun _=>zh,v8,List.getElem?_map,h2];rfl
   rw [h1,Nat.zero_add]
   simp only [argT,List.getD,this,Option.getD_some]
  ·simp [hpF,lkS] at hk
  ·simp [hpF,lkS] at hk
  ·simp [hpF,lkS] at hk
  ·simp only [okC,Bool.and_eq_true] at hc
   exact List.all_eq_true.1 hc.1 _ (kw hd)
  ·simp [hpF,lkS] at hk
 refine ((h (st++[])).run _ hst).mono fun e s' ⟨C',hq,hs'⟩=>?_
 obtain⟨t,S,df⟩:=s'
 obtain⟨ρ,hdf,hR⟩:=hs'
 simp only at hdf hR
 have fin:pubK (fun C=>ansW E.P fn C fun y=>Tl y r0) fn.results.toList C'→ARet E fn (fun r st2=>r=r0∧∃ ext,st2=st++ext) ⟨t,S,df⟩:=fun h=>by
  refine qgj hR (fun x hx=>hdf.dm x hx) hdf.nd fun S' hR'=>?_
  refine qad (fun C t S h hR'=>?_) h hR'
  obtain⟨y,h1,h2⟩:=qzv hR' h
  refine qn rfl (wb h1 h2.ok) ⟨rfl,?_⟩
  have hl:=hR'.len
  rw [List.append_nil] at hl
  exact qj7 hl fun k hk=>by
   have:=hR'.low k (by simpa using hk) (fun h=>h)
   rw [List.append_nil] at this
   exact this
 cases e with
 |normal=>exact fin hq
 |ret=>exact fin hq
 | _=>exact hq.elim
section
variable {E : Env} {N : Nat} {ops : Array Oper} {nx : Nat} {sl : List (Nat × SV)} {H : Nat → Option SR} {k : Ef → Prop} {d : Option Tmp} {T : TypeId} {p : String} {af : Array Edge}
theorem qov {t e e':TypeId} {x y:Operand} {b sz i:Nat} {agg:Bool} {xs:List AV} {kd:IntKind} {v:SV} (hx:sval N sl x=some (.tp b)) (hH:H b=some (.own sz e xs)) (hy:sval N sl y=some v) (hv:qeo v=some (kd,(i:Int))) (he:elT (E.P.underlying t)=some e') (ht:tyOf E.P e'=some (sz,agg)) (hi:i<xs.length)
  (h:k ⟨.bx b (0+i * sz),[b],[],nx⟩):∃ e,Loc E N ops ⟨d,.indexAddr t x y,T,p,af,none⟩ nx sl H e∧k e:=by
 refine⟨_,ya (v:=.bx b (0+i * sz)) fun df rd K rest ρ t' S hs hS hk=>?_,h⟩
 rcases hS.ok b _ ((yo b).trans hH) with⟨rfl,_⟩ | ⟨o,ver,cap,pad,e1,e2,_⟩
 ·simp at hi
 ·refine qna (o:=o) (ver:=ver) (off:=0) (len:=xs.length) (cp:=cap+1) ((q8 hs hx).trans (by simp [SV.ev,e1,tpAt,AV.one])) ((q8 hs hy).trans (qbt hv ρ)) (qcj he) ht rfl hi ?_
  simpa only [SV.ev,e1,bxAt] using hk
theorem q4o {sz i j sz':Nat} {agg:Bool} {xs pad:List AV} {z r:AV} (hw:∀ x∈xs,x.cells.length=sz) (hz:xs[i]? = some z) (hr:jk sz' agg j z.cells=some r) (hj:j+sz'≤sz) (h1:agg=false→0<sz'):jk sz' agg (0+i * sz+j) (flat xs++pad)=some r:=by
 have hg:=q0x (pad:=pad) hw hz
 have hzl:=hw z (List.mem_of_getElem? hz)
 have hlen:i * sz+sz≤(flat xs++pad).length:=by
  have:=congrArg List.length hg
  simp only [List.length_take,List.length_drop] at this
  have h1:i * sz≤xs.length * sz:=Nat.mul_le_mul_right _ (by have:=lt_of_getElem? hz;omega)
  have h2:(flat xs++pad).length=xs.length * sz+pad.length:=by rw [List.length_append,zt hw]
  omega
 unfold jk at hr ⊢
 rw [Nat.zero_add]
 cases agg with
 |true=>
  simp only [cond_true] at hr ⊢
  have b1:Nat.ble (i * sz+j+sz') (flat xs++pad).length=true:=Nat.ble_eq_true_of_le (by omega)
  have b2:Nat.ble (j+sz') z.cells.length=true:=Nat.ble_eq_true_of_le (by omega)
  rw [b2] at hr
  rw [b1]
  simp only [cond_true] at hr ⊢
  rw [← hr,← hg]
  congr 2
  apply List.ext_getElem?
  intro q
  simp only [List.getElem?_take,List.getElem?_drop]
  by_cases hq:q<sz'
  ·rw [if_pos hq,if_pos hq,if_pos (by omega)]
   congr 1
   omega
  ·rw [if_neg hq,if_neg hq]
 |false=>
  simp only [cond_false] at hr ⊢
  have:=h1 rfl
  rw [← hr,← hg,List.getElem?_take_of_lt (by omega),List.getElem?_drop]
theorem qxh {t e:TypeId} {x:Operand} {b off sz i j sz':Nat} {agg:Bool} {xs:List AV} {z r:AV} (hx:sval N sl x=some (.bx b off)) (hH:H b=some (.own sz e xs)) (ht:tyOf E.P t=some (sz',agg)) (ho:off=0+i * sz+j) (hz:xs[i]? = some z) (hr:jk sz' agg j z.cells=some r) (hj:(Nat.ble (j+sz') sz && (agg ||Nat.blt 0 sz'))=true)
  (h:k ⟨nf r,[b],[],nx⟩):∃ e,Loc E N ops ⟨d,.load t x,T,p,af,none⟩ nx sl H e∧k e:=by
 simp only [Bool.and_eq_true,Bool.or_eq_true] at hj
 refine⟨_,ya (v:=nf r) fun df rd K rest ρ t' S hs hS hk=>?_,h⟩
 rcases hS.ok b _ ((yo b).trans hH) with⟨rfl,_⟩ | ⟨o,ver,cap,pad,e1,e2,e3,e4,_⟩
 ·simp at hz
 ·subst ho
  refine ka (o:=o) (ver:=ver) (off:=0+i * sz+j) ((q8 hs hx).trans (by simp only [SV.ev,e1,bxAt])) e2 ht (q4o e4 hz hr (Nat.le_of_ble_eq_true hj.1) fun e=>?_) (by rw [← qkl ρ r];exact hk)
  rcases hj.2 with h|h
  ·rw [e] at h;simp at h
  ·exact vf h
theorem qri (A Z B us:List AV) (j:Nat) (h:j+us.length≤Z.length):zu (A++Z++B) (A.length+j) us=A++zu Z j us++B:=by
 unfold zu
 rw [List.append_assoc A Z B,List.take_length_add_append,List.take_append_of_le_length (by omega),Nat.add_assoc,List.drop_length_add_append,List.drop_append_of_le_length (by omega)]
 simp
theorem q12 {sz i j:Nat} {xs pad us:List AV} {z z':AV} (hw:∀ x∈xs,x.cells.length=sz) (hz:xs[i]? = some z) (hz':z'.cells=zu z.cells j us) (hj:j+us.length≤sz):zu (flat xs++pad) (0+i * sz+j) us=flat (xs.set i z')++pad∧z'.cells.length=sz:=by
 have hzl:=hw z (List.mem_of_getElem? hz)
 have hl:z'.cells.length=sz:=by rw [hz'];simp [zu];omega
 have hi:=lt_of_getElem? hz
 refine⟨?_,hl⟩
 rw [← qoi hw hl hi]
 have hg:=q0x (pad:=pad) hw hz
 have hA:((flat xs++pad).take (i * sz)).length=i * sz:=by
  have h1:i * sz≤xs.length * sz:=Nat.mul_le_mul_right _ (by omega)
  rw [List.length_take,List.length_append,zt hw]
  omega
 generalize flat xs++pad=cs at hg hA
 have hcs:cs=cs.take (i * sz)++z.cells++(cs.drop (i * sz)).drop sz:=by
  rw [← hg,List.append_assoc,List.take_append_drop,List.take_append_drop]
 have e1:=qri (cs.take (i * sz)) z.cells ((cs.drop (i * sz)).drop sz) us j (by omega)
 have e2:=qri (cs.take (i * sz)) z.cells ((cs.drop (i * sz)).drop sz) z'.cells 0 (by omega)
 rw [hA,← hcs] at e1 e2
 have e3:zu z.cells 0 z'.cells=z'.cells:=by
  unfold zu
  rw [Nat.zero_add,List.drop_eq_nil_of_le (by omega)]
  simp
 rw [Nat.add_zero,e3] at e2
 rw [Nat.zero_add,e1,e2,hz']
theorem q5l {t e:TypeId} {x y:Operand} {b off sz i j sz':Nat} {agg:Bool} {xs:List AV} {z z' u:AV} {v:SV} (hx:sval N sl x=some (.bx b off)) (hy:sval N sl y=some v) (hv:∀ ρ,v.ev ρ = u) (hH:H b=some (.own sz e xs)) (ht:tyOf E.P t=some (sz',agg)) (ho:off=0+i * sz+j) (hz:xs[i]? = some z) (hz':z'.cells=zu z.cells j u.cells)
  (hj:(u.okc && Nat.beq u.cells.length sz' && ju u.cells && Nat.ble (j+sz') sz)=true) (h:k ⟨.a (.v undef),[b],[(b,some (.own sz e (xs.set i z')))],nx⟩):∃ e,Loc E N ops ⟨d,.store t x y,T,p,af,none⟩ nx sl H e∧k e:=by
 simp only [Bool.and_eq_true] at hj
 obtain⟨⟨⟨j1,j2⟩,j3⟩,j4⟩:=hj
 have j2:=Nat.eq_of_beq_eq_true j2
 have j4:=Nat.le_of_ble_eq_true j4
 refine⟨_,fun df rd K rest ρ t' S hs hS hk=>?_,h⟩
 have hok:=hS.ok b _ ((yo b).trans hH)
 rcases hok with⟨rfl,_⟩ | ⟨o,ver,cap,pad,e1,e2,e3,e4,e5,e6⟩
 ·simp at hz
 ·subst ho
  obtain⟨q1,q2⟩:=q12 (pad:=pad) e4 hz hz' (by omega)
  have hlt:=lt_of_getElem? hz
  refine qef (o:=o) (ver:=ver) (off:=0+i * sz+j) (xs:=u.cells) ((q8 hs hx).trans (by simp only [SV.ev,e1,bxAt])) ((q8 hs hy).trans (hv ρ)) e2 ht j1 rfl j2 (by simpa [ju] using j3) (by
   have h1:i * sz+sz≤xs.length * sz:=by rw [← Nat.succ_mul];exact Nat.mul_le_mul_right _ hlt
   rw [List.length_append,zt e4]
   omega) ?_
  rw [q1]
  have hw':∀ y∈xs.set i z',y.cells.length=sz:=fun y hy=>by
   rcases List.mem_or_eq_of_mem_set hy with h|rfl
   ·exact e4 y h
   ·exact q2
  have key:∀ k r,chF [(b,some (.own sz e (xs.set i z')))] (resF [b] H) k=some r→k=b∧r = .own sz e (xs.set i z'):=fun k r hk=>by
   simp only [chF,lkS] at hk
   by_cases e:b=k
   ·subst e
    have:Nat.beq b b=true:=by simp
    rw [this] at hk
    simp only [cond_true,Option.some.injEq] at hk
    exact⟨rfl,hk.symm⟩
   ·rw [jx e] at hk
    have:=(wj hk).1
    simp only [memN,List.any_cons,List.any_nil,Bool.or_false] at this
    exact absurd (Nat.eq_of_beq_eq_true this).symm e
  refine hk ρ _ ⟨fun _ _=>rfl,⟨fun k r hk=>?_,fun k k' r r' hne g1 g2=>?_⟩,by simp,fun j hj hne=>?_,fun k r hk o' ho'=>?_⟩
  ·obtain⟨rfl,rfl⟩:=key k r hk
   refine .inr ⟨o,ver,cap,pad,by rw [e1,List.length_set],qcm e2,?_,hw',by rw [List.length_set];exact e5,e6⟩
   rw [List.length_append,zt hw',List.length_set,← zt e4,← List.length_append]
   exact e3
  ·exact absurd ((key k r g1).1.trans (key k' r' g2).1.symm) hne
  ·have:=hne b _ ((yo b).trans hH)
   rw [e1] at this
   exact List.getElem?_set_ne (fun e=>this (by rw [e];rfl))
  ·obtain⟨rfl,rfl⟩:=key k r hk
   exact .inr ⟨k,_,(yo k).trans hH,ho'⟩
structure OwnR (sz:Nat) (T:TypeId) (ys:List AV) (st:List AObj) (c r:AV) (st':List AObj):Prop where
 ok:OwnS st' sz T ys r
 len:st.length≤st'.length
 same:∀ j,j<st.length→zn c≠some j→st'[j]? = st[j]?
 loc:∀ o,zn r=some o→st.length≤o∨zn c=some o
theorem qsd {S:List AObj} {sz:Nat} {T:TypeId} {xs:List AV} {c:AV} (h:OwnS S sz T xs c):tpAt c=c:=qo8 h
theorem qoc {f:FuncId} {sz:Nat} {T0:TypeId} {xs ys:List AV} (args:List AV) (hc:okC ⟨jg 0 (.tp 0::args.map .a),[(0,some (.own sz T0 xs))],1⟩=true)
  (h:∀ st c,OwnS st sz T0 xs c→qm E f (c::args) st fun r st'=>OwnR sz T0 ys st c r st'):vk E f (.tp 0::args.map .a) 1 (hpF [(0,some (.own sz T0 xs))]) ⟨.tp 1,vj [(0,some (.own sz T0 xs))],[(1,some (.own sz T0 ys))]++vt [(0,some (.own sz T0 xs))],2⟩:=fun ρ S hS=>by
 simp only [wv] at hS
 have hok:OwnS S sz T0 xs (ρ 0):=hS.ok 0 _ rfl
 have e:SV.evs ρ (.tp 0::args.map .a) = ρ 0::args:=by
  simp only [SV.evs,SV.ev,qsd hok,v8,List.map_map]
  congr 1
  conv=>rhs;rw [← List.map_id args]
  exact List.map_congr_left fun x _=>rfl
 rw [e]
 refine (h S (ρ 0) hok).mono fun r S' hr=>⟨upd ρ 1 r,?_,?_⟩
 ·simp only [SV.ev,va,qsd hr.ok]
 ·have key:∀ k q,hpF [(1,some (.own sz T0 ys))] k=some q→k=1∧q = .own sz T0 ys:=fun k q hk=>by
   have:=w9 hk
   simp only [lkS] at this
   cases hb:Nat.beq 1 k with
   |true=>
    rw [hb] at this
    simp only [cond_true,Option.some.injEq] at this
    exact⟨(Nat.eq_of_beq_eq_true hb).symm,this.symm⟩
   |false=>rw [hb] at this;simp at this
  refine⟨fun k hk=>xz _ _ (by simp only at hk;omega),?_,hr.len,fun j hj hn=>?_,fun k q hk o ho=>?_⟩
  ·simp only [wv,qez]
   refine⟨fun k q hk=>?_,fun k k' q q' hne h1 h2=>absurd ((key k q h1).1.trans (key k' q' h2).1.symm) hne⟩
   obtain⟨rfl,rfl⟩:=key k q hk
   rw [va]
   exact hr.ok
  ·simp only [wv] at hn
   exact hr.same j hj (hn 0 _ rfl)
  ·simp only [wv,qez] at hk ⊢
   obtain⟨rfl,rfl⟩:=key k q hk
   rw [va] at ho
   rcases hr.loc o ho with h|h
   ·exact .inl h
   ·exact .inr ⟨0,_,rfl,h⟩
theorem qyt {f:FuncId} {sz:Nat} {T0:TypeId} {ys:List AV} {nx:Nat} {H:Nat→Option SR} (args:List AV) (vs:List SV) (hv:∀ ρ,SV.evs ρ vs=args)
  (h:∀ st,qm E f args st fun r st'=>OwnR sz T0 ys st (.v undef) r st'):vk E f vs nx H ⟨.tp nx,[],[(nx,some (.own sz T0 ys))],nx+1⟩:=fun ρ S hS=>by
 rw [hv]
 refine (h S).mono fun r S' hr=>⟨upd ρ nx r,?_,?_⟩
 ·simp only [SV.ev,va,qsd hr.ok]
 ·have key:∀ k q,chF [(nx,some (SR.own sz T0 ys))] (resF [] H) k=some q→k=nx∧q = .own sz T0 ys:=fun k q hk=>by
   simp only [chF,lkS] at hk
   cases hb:Nat.beq nx k with
   |true=>
    rw [hb] at hk
    simp only [cond_true,Option.some.injEq] at hk
    exact⟨(Nat.eq_of_beq_eq_true hb).symm,hk.symm⟩
   |false=>
    rw [hb] at hk
    simp [resF,memN] at hk
  refine⟨fun k hk=>xz _ _ (by simp only at hk;omega),⟨fun k q hk=>?_,fun k k' q q' hne h1 h2=>absurd ((key k q h1).1.trans (key k' q' h2).1.symm) hne⟩,hr.len,fun j hj _=>hr.same j hj (by simp [zn]),fun k q hk o ho=>?_⟩
  ·obtain⟨rfl,rfl⟩:=key k q hk
   rw [va]
   exact hr.ok
  ·obtain⟨rfl,rfl⟩:=key k q hk
   rw [va] at ho
   rcases hr.loc o ho with h|h
   ·exact .inl h
   ·simp [zn] at h
end
end Go.Av
namespace Go.Proofs.YtmoklbacdkmkaaaGreatDoor
open Go Go.Av Go.RowKit Go.Proofs Go.Pl
theorem qrn {b:UInt8} {v:qb}:ko b v=if 0<v.length∧v.getD 0 0=b then v.drop 1 else v:=by
 cases v with
 |nil=>rfl
 |cons x r=>
  unfold ko
  by_cases h:x=b <;> simp [h]
set_option maxHeartbeats 2000000 in
theorem qmk (ls:List qb) (st:List AObj) (hB:LsB ls):qm E 110 [Ss ls] st fun r st'=>r=qby ls∧st'=st:=by
 refine ze [.a (Ss ls)] (qrb _) Tryz.func110 rfl rfl (fun _=>rfl) rfl fun S0=>?_
 have hL:=hB.len
 have hml:(ls.map fun x=>Sv x).length=ls.length:=by simp
 cases ls with
 |nil=>
  apply qd [2]
  repeat' (first|apply And.intro|(intro h;try exact cDd)|exact cSd|apply qa [2]|refine exr ?_|refine qh ?_)
 |cons l r=>
  have hl:=hB.val l (by simp)
  simp only [List.length_cons] at hL hml
  have hkd:=fun st=>qf2 l st (by omega)
  have hget0:((l::r).map fun x=>Sv x)[0]? = some (Sv l):=rfl
  by_cases h4:qw l=4
  ·have hcu:=fun st=>q5w l st (by omega) h4
   simp only [h4] at hkd
   have htr:(ko 32 (js l)).length≤l.length:=by unfold ko js;split <;> simp <;> omega
   have hrl:(js l).length≤l.length:=by unfold js;simp
   apply qd [2]
   repeat' (first|apply And.intro|(intro h;try exact cDd)|(refine Exists.intro (0) ⟨by omega,_,hget0,?_⟩)|exact⟨Tryz.call108⟩|refine cpe hkd ?_|exact⟨Tryz.call179⟩|refine cpe hcu ?_|exact cSd|apply qa [2]|refine exr ?_|refine qh ?_)
   all_goals
    refine zq (X:=Nat×qb) (fun (k,acc)=>⟨[(0,.a (Ss (l::r))),(2,.bx 0 0),(4,.s (z4 l)),(5,.s acc),(7,.i ((k:Int)+1))],[(0,some (.cells 156 [.s [],.s []]))],1⟩) (fun (k,acc)=>k≤r.length∧(∀ x∈r.take k,qw x=3)∧acc=accU l (r.take k)) (fun (k,_)=>r.length - k) (0,ko 32 (js l)) ⟨by omega,by simp,by simp [accU]⟩ ?_ ?_
    ·skip
     repeat' (first|apply And.intro|(intro h;try exact cDd)|exact cSd|apply qa []|refine exr ?_|refine qh ?_)
     all_goals (rw [qrn];split <;> rename_i h <;> first|rfl|(exfalso;omega)|exact absurd ((q3b _).2 h.2) (by assumption)|exact absurd ⟨by omega,(q3b _).1 (by assumption)⟩ h)
    ·rintro⟨k,acc⟩ ⟨hk,h3,hacc⟩
     have hal:=q6v l (r.take k) fun s hs=>hB.val s (by simp [List.mem_of_mem_take hs])
     rw [← hacc,List.length_take] at hal
     by_cases hlt:k<r.length
     ·obtain⟨a,ha⟩:∃ a,r[k]? = some a:=⟨_,List.getElem?_eq_getElem hlt⟩
      have hget:((l::r).map fun x=>Sv x)[k+1]? = some (Sv a):=by simp [ha]
      have hav:=hB.val a (by simp [List.mem_of_getElem? ha])
      have hka:=fun st=>qf2 a st (by omega)
      have htk:r.take (k+1)=r.take k++[a]:=by
       obtain⟨_,rfl⟩:=List.getElem?_eq_some_iff.1 ha
       rw [List.take_append_getElem]
      by_cases hk3:qw a=3
      ·obtain⟨h2,_⟩:=qr9 hk3
       simp only [hk3] at hka
       have hd1:(a.drop 1).length=a.length - 1:=by simp
       have hac:=q3i l (r.take k) a
       rw [← hacc,← htk,qrn] at hac
       apply qd []
       repeat' (first|apply And.intro|(intro h;try exact cDd)|(refine Exists.intro ((k+1)) ⟨by omega,_,hget,?_⟩)|exact⟨Tryz.call108⟩|refine cpe hka ?_|(refine Exists.intro (k+1,_) ⟨⟨by omega,by rw [htk];exact qot h3 hk3,rfl⟩,by simp only;omega,?_⟩)|exact cSd|apply qa []|refine exr ?_|refine qh ?_)
       all_goals (rw [hac];split <;> rename_i h <;> first|rfl|(simp only [List.append_assoc];rfl)|(exfalso;omega)|exact absurd ((q99 _).2 h.2) (by assumption)|exact absurd ⟨by omega,(q99 _).1 (by assumption)⟩ h)
      ·have hno:je (l::r)=(([],[]),2):=if_neg fun h=>hk3 (h.2.2 a (List.mem_of_getElem? ha))
       unfold qby
       rw [hno]
       apply qd []
       repeat' (first|apply And.intro|(intro h;try exact cDd)|(refine Exists.intro ((k+1)) ⟨by omega,_,hget,?_⟩)|exact⟨Tryz.call108⟩|refine cpe hka ?_|exact absurd (by assumption) hk3|exact cSd|apply qa []|refine exr ?_|refine qh ?_)
     ·rw [List.take_of_length_le (by omega)] at h3 hacc
      have hun:je (l::r)=if 1000<(accU l r).length then (([],[]),6) else ((z4 l,accU l r),0):=if_pos ⟨by simp,h4,h3⟩
      unfold qby
      rw [hun,← hacc]
      apply qd []
      repeat' (first|apply And.intro|(intro h;try exact cDd)|exact cSd|apply qa []|refine exr ?_|refine qh ?_)
      all_goals (split <;> first|rfl|omega)
  ·have hno:je (l::r)=(([],[]),2):=if_neg fun h=>h4 h.2.1
   unfold qby
   rw [hno]
   apply qd [2]
   repeat' (first|apply And.intro|(intro h;try exact cDd)|(refine Exists.intro (0) ⟨by omega,_,hget0,?_⟩)|exact⟨Tryz.call108⟩|refine cpe hkd ?_|exact cSd|apply qa [2]|refine exr ?_|refine qh ?_)
end Go.Proofs.YtmoklbacdkmkaaaGreatDoor
namespace Go.Pl
open Go Go.Proofs
structure zm where
 kind:Int
 raw:qb
 fields:List Fld
structure PSt where
 lines:List qb
 frm:Int
 full:Bool
 items:List zm
 block:List qb
 fields:List Fld
 records:Int
def jr (p:PSt):Option (Int×Int)×PSt:=
 if p.lines=[] then (none,p)
 else if (je p.lines).2≠0 then (some (p.frm,(je p.lines).2),p)
 else if p.full=true then (some (p.frm,11),p)
 else (none,{ p with lines:=[],fields:=p.fields++[(je p.lines).1] })
end Go.Pl
namespace Go.Proofs.YtmoklbacdkmkaaaGreatDoor
open Go Go.Av Go.RowKit Go.Proofs Go.Pl
@[reducible] def z0 (x : zm) : AV := .ag [Iv x.kind, Sv x.raw, zz x.fields]
@[reducible] def ji (xs : List zm) : AV := .sl 3 (xs.map z0) none
@[reducible] def parC (c1 c2 c3 c4 : AV) (p : PSt) : List AV := [c1, Iv p.frm, Bv p.full, c2, c3, c4, Iv p.records]
@[reducible] def parO (c1 c2 c3 c4 : AV) (p : PSt) : AObj := .cells 0 186 (parC c1 c2 c3 c4 p)
structure ParS (b o:Nat) (p:PSt) (st:List AObj) (c1 c2 c3 c4:AV):Prop where
 lt:o<b
 le:b≤st.length
 ob:st[o]? = some (parO c1 c2 c3 c4 p)
 h1:TipC b st 1 9 (p.lines.map fun x=>Sv x) c1
 h2:TipC b st 3 137 (p.items.map z0) c2
 h3:TipC b st 1 9 (p.block.map fun x=>Sv x) c3
 h4:TipC b st 2 156 (p.fields.map fldA) c4
 ne:∀ t xs ys,c1 = .sl 1 xs (some t)→c3 = .sl 1 ys (some t)→False
structure Keep (b o:Nat) (st st':List AObj):Prop where
 len:st.length≤st'.length
 same:∀ k,k≠o→k<st.length→(k<b∨qhx st[k]?)→st'[k]? = st[k]?
theorem Keep.trans {b o:Nat} {st st' st'':List AObj} (h:Keep b o st st') (k:Keep b o st' st''):Keep b o st st'':=⟨Nat.le_trans h.len k.len,fun i hne hi hc=>by
 have e:=h.same i hne hi hc
 refine (k.same i hne (Nat.lt_of_lt_of_le hi h.len) ?_).trans e
 rw [e]
 exact hc⟩
def qft (a n:Int):AV:=.ifc 101 (.pp [Iv a,.ifc 76 (Iv n)])
def errP:Option (Int×Int)→AV
 |none=>.v .nilIface
 |some (a,n)=>qft a n
theorem qi5 (a n:Int):Pure (qft a n):=qbx (qsg fun x hx=>by
 simp only [List.mem_cons,List.not_mem_nil,or_false] at hx
 rcases hx with rfl|rfl
 ·exact qq _
 ·exact qbx (qq _))
theorem qks (a n:Int) (st:List AObj):qm E 167 [Iv a,.ifc 76 (Iv n)] st fun r st'=>r=qft a n∧st'=st:=by
 refine qy (qi5 a n) (qp Tryz.func167 rfl (Nat.le_of_ble_eq_true rfl) ?_)
 repeat' (first|(apply qlm;(iterate 3 exact rfl))|apply ql|apply qe|apply qf|apply qi|apply qg|(apply jq;exact rfl;exact rfl)|(apply vd;(iterate 3 exact rfl))|apply qt)
 exact qn rfl (q9 rfl) ⟨rfl,_,rfl⟩
theorem q3c (ls:List qb) (t:Option Nat) (st:List AObj) (hB:LsB ls) (h:(je ls).2=0):qm E 216 [.sl 1 (ls.map fun x=>Sv x) t] st fun r st'=>r = .tu [fldA (je ls).1,.v .nilIface]∧st'=st:=by
 have:=ql4 ls st hB
 unfold qec at this
 rw [h] at this
 exact qnb (qg2 _ _ _) this
theorem q3d (ls:List qb) (t:Option Nat) (st:List AObj) (hB:LsB ls) (h:(je ls).2≠0):qm E 216 [.sl 1 (ls.map fun x=>Sv x) t] st fun r st'=>r = .tu [fldA (je ls).1,.ifc 76 (Iv (je ls).2)]∧st'=st:=by
 have:=ql4 ls st hB
 unfold qec at this
 rw [qjj h] at this
 exact qnb (qg2 _ _ _) this
structure PB (n:Nat) (p:PSt):Prop where
 small:n<900000
 lines:p.lines.length≤n
 linesV:∀ s∈p.lines,s.length<1000000
 items:p.items.length≤n
 block:p.block.length≤n
 blockV:∀ s∈p.block,s.length<1000000
 fields:p.fields.length≤n
 rec0:0≤p.records
 rec1:p.records≤n
theorem PB.ls {n:Nat} {p:PSt} (h:PB n p):LsB p.lines:=⟨by have:=h.lines;have:=h.small;omega,h.linesV⟩
theorem ParS.pre {b o:Nat} {p:PSt} {st l:List AObj} {c1 c2 c3 c4:AV} (P:ParS b o p st c1 c2 c3 c4):ParS b o p (st++l) c1 c2 c3 c4:=
 ⟨P.lt,by have:=P.le;simp;omega,qa6 P.ob,qh5 P.h1,qh5 P.h2,qh5 P.h3,qh5 P.h4,P.ne⟩
end Go.Proofs.YtmoklbacdkmkaaaGreatDoor
namespace Go.Pl
open Go Go.Proofs
def xy (p:PSt):PSt:=
 if p.block=[] then { p with block:=[],fields:=[] }
 else { p with items:=p.items++[⟨if p.fields=[] then 2 else 3,zi p.block,p.fields⟩],records:=if p.fields=[] then p.records else p.records+1,block:=[],fields:=[] }
def endP (p:PSt):Option (Int×Int)×PSt:=match (jr p).1 with
 |some e=>(some e,p)
 |none=>(none,xy (jr p).2)
theorem qma:∀ (x:qb) (r:List qb),Lib.join (x::r) [10]++[10]=zi (x::r)
 |x,[]=>by rw [Lib.join_one];simp [zi]
 |x,y::r=>by
  have ih:=qma y r
  rw [Lib.join_cons] at ih ⊢
  unfold Lib.joinTail at ih ⊢
  simp only [List.map_cons,List.flatten_cons,zi,List.flatMap_cons] at ih ⊢
  rw [← ih]
  simp
theorem qk6:∀ (r:List qb),(∀ s∈r,s.length<1000000)→(zi r).length≤1000001 * r.length
 | [],_=>by simp [zi]
 |a::r,h=>by
  have ih:=qk6 r fun s hs=>h s (by simp [hs])
  have ha:=h a (by simp)
  simp only [zi,List.flatMap_cons,List.length_append,List.length_cons,List.length_nil] at ih ⊢
  omega
end Go.Pl
namespace Go.Proofs.YtmoklbacdkmkaaaGreatDoor
open Go Go.Av Go.RowKit Go.Proofs Go.Pl
theorem qfv {n:Nat} {p:PSt} (h:PB n p) (hs:n+1<900000):PB (n+1) (jr p).2:=by
 have h1:=h.lines;have h2:=h.items;have h3:=h.block;have h4:=h.fields;have h5:=h.rec0;have h6:=h.rec1
 unfold jr
 split
 ·exact⟨hs,by simp only;omega,h.linesV,by simp only;omega,by simp only;omega,h.blockV,by simp only;omega,h5,by simp only;omega⟩
 ·split
  ·exact⟨hs,by simp only;omega,h.linesV,by simp only;omega,by simp only;omega,h.blockV,by simp only;omega,h5,by simp only;omega⟩
  ·split
   ·exact⟨hs,by simp only;omega,h.linesV,by simp only;omega,by simp only;omega,h.blockV,by simp only;omega,h5,by simp only;omega⟩
   ·exact⟨hs,by simp,by simp,by simp only;omega,by simp only;omega,h.blockV,by simp;omega,h5,by simp only;omega⟩
theorem zbe (xs:List qb) (tip:Option Nat) (st:List AObj) (hne:xs≠[]) (hN:xs.length≤900000) (hv:∀ s∈xs,s.length<1000000):qm E 156 [.sl 1 (xs.map fun x=>Sv x) tip,Sv [10]] st fun r st'=>r=Sv (Lib.join xs [10])∧st'=st:=by
 refine q4x xs tip [10] st (by omega) ?_
 have h1:=qk6 xs hv
 cases xs with
 |nil=>exact absurd rfl hne
 |cons x r=>
  have h2:=congrArg List.length (qma x r)
  rw [List.length_append] at h2
  simp only [List.length_cons,List.length_nil] at h2 h1 hN
  omega
def parH (a:Nat) (p:PSt):List (Nat×Option SR):=[(0,some (.cells 186 [.tp a,.i p.frm,.b p.full,.tp (a+1),.tp (a+2),.tp (a+3),.i p.records])),(a,some (.tip 1 9 (p.lines.map fun x=>Sv x))),(a+1,some (.tip 3 137 (p.items.map z0))),(a+2,some (.tip 1 9 (p.block.map fun x=>Sv x))),(a+3,some (.tip 2 156 (p.fields.map fldA)))]
theorem qok (n:Nat) (p:PSt) (hB:PB n p):vk E 169 [.bx 0 0] 5 (hpF (parH 1 p)) ⟨.a (errP (jr p).1),vj (parH 1 p),parH 5 (jr p).2++vt (parH 1 p),9⟩:=by
 refine xc [.bx 0 0] (parH 1 p) 5 (.a (errP (jr p).1)) (parH 5 (jr p).2) 9 Tryz.func169 rfl rfl rfl rfl fun S F ρ=>?_
 have hls:=hB.ls
 have hsm:=hB.small
 have hfl:=hB.fields
 by_cases h0:p.lines=[]
 ·have e:jr p=(none,p):=by unfold jr;rw [if_pos h0]
  rw [e]
  have hl0:(p.lines.map fun x=>Sv x).length=0:=by simp [h0]
  apply qd []
  repeat' (first|apply And.intro|(intro h;try exact cDd)|exact cSd|apply qa []|refine exr ?_|refine qh ?_)
 ·have hl0:(p.lines.map fun x=>Sv x).length≠0:=by simp [h0]
  by_cases hu:(je p.lines).2=0
  ·have hun:=fun st=>q3c p.lines none st hls hu
   cases hf:p.full with
   |true=>
    have e:jr p=(some (p.frm,11),p):=by unfold jr;rw [if_neg h0,if_neg (by simp [hu]),if_pos hf]
    rw [e]
    have hft:=fun st=>qks p.frm 11 st
    apply qd []
    repeat' (first|apply And.intro|(intro h;try exact cDd)|exact⟨Tryz.call216⟩|refine cpe hun ?_|exact⟨Tryz.call167⟩|refine cpe hft ?_|(exact absurd (by assumption:p.full=false) (by rw [hf];decide))|exact cSd|apply qa []|refine exr ?_|refine qh ?_)
   |false=>
    have e:jr p=(none,{ p with lines:=[],fields:=p.fields++[(je p.lines).1] }):=by unfold jr;rw [if_neg h0,if_neg (by simp [hu]),if_neg (by simp [hf])]
    rw [e]
    apply qd [51]
    repeat' (first|apply And.intro|(intro h;try exact cDd)|exact⟨Tryz.call216⟩|refine cpe hun ?_|(exact absurd (by assumption:p.full=true) (by rw [hf];decide))|exact cSd|apply qa [51]|refine exr ?_|refine qh ?_)
    all_goals first|(simp [SV.evs,SV.ev];done)|(simp [SV.evs];omega)
  ·have hun:=fun st=>q3d p.lines none st hls hu
   have e:jr p=(some (p.frm,(je p.lines).2),p):=by unfold jr;rw [if_neg h0,if_pos hu]
   rw [e]
   have hft:=fun st=>qks p.frm (je p.lines).2 st
   apply qd []
   repeat' (first|apply And.intro|(intro h;try exact cDd)|exact⟨Tryz.call216⟩|refine cpe hun ?_|exact⟨Tryz.call167⟩|refine cpe hft ?_|exact cSd|apply qa []|refine exr ?_|refine qh ?_)
theorem q0m (n:Nat) (p:PSt) (hB:PB n p) (hs:n+1<900000):vk E 103 [.bx 0 0] 5 (hpF (parH 1 p)) ⟨.a (errP (endP p).1),vj (parH 1 p),parH 5 (endP p).2++vt (parH 1 p),9⟩:=by
 refine xc [.bx 0 0] (parH 1 p) 5 (.a (errP (endP p).1)) (parH 5 (endP p).2) 9 Tryz.func103 rfl rfl rfl rfl fun S F ρ=>?_
 have hfc:=qok n p hB
 have hB2:=qfv hB hs
 have hsame:∀ e,(jr p).1=some e→(jr p).2=p:=fun e=>by
  unfold jr
  split
  ·simp
  ·split
   ·simp
   ·split
    ·simp
    ·simp
 unfold endP
 generalize jr p=fq at hfc hB2 hsame
 obtain⟨fe,q⟩:=fq
 cases fe with
 |some e=>
  obtain rfl:=hsame e rfl
  obtain⟨a,k⟩:=e
  apply qd []
  repeat' (first|apply And.intro|(intro h;try exact cDd)|exact⟨Tryz.call169⟩|(refine jj hfc ?_)|exact cSd|apply qa []|refine exr ?_|refine qh ?_)
 |none=>
  dsimp only at hB2 hfc
  have h3:=hB2.fields
  have h4:=hB2.rec0
  have h5:=hB2.rec1
  have h1:=hB2.block
  have h2:=hB2.items
  by_cases hb:q.block=[]
  ·have e:xy q={ q with block:=[],fields:=[] }:=by unfold xy;rw [if_pos hb]
   simp only [e]
   have hl0:(q.block.map fun x=>Sv x).length=0:=by simp [hb]
   apply qd []
   repeat' (first|apply And.intro|(intro h;try exact cDd)|exact⟨Tryz.call169⟩|(refine jj hfc ?_)|exact cSd|apply qa []|refine exr ?_|refine qh ?_)
  ·have hl0:(q.block.map fun x=>Sv x).length≠0:=by simp [hb]
   have hbl:=qk6 q.block hB2.blockV
   obtain⟨b,r,hbr⟩:∃ b r,q.block=b::r:=by
    cases hq:q.block with
    |nil=>exact absurd hq hb
    |cons b r=>exact⟨b,r,rfl⟩
   have hjt:=qma b r
   rw [← hbr] at hjt
   have hjl:=congrArg List.length hjt
   simp only [List.length_append,List.length_cons,List.length_nil] at hjl
   have hjo:=fun st=>zbe q.block none st hb (by omega) hB2.blockV
   by_cases hf:q.fields=[]
   ·have e:xy q={ q with items:=q.items++[⟨2,zi q.block,q.fields⟩],records:=q.records,block:=[],fields:=[] }:=by unfold xy;rw [if_neg hb,if_pos hf,if_pos hf]
    simp only [e]
    have hl1:(q.fields.map fldA).length=0:=by simp [hf]
    apply qd []
    repeat' (first|apply And.intro|(intro h;try exact cDd)|exact⟨Tryz.call169⟩|(refine jj hfc ?_)|exact⟨Tryz.call156⟩|refine cpe hjo ?_|exact cSd|apply qa []|refine exr ?_|refine qh ?_)
    all_goals first|(simp [SV.evs,SV.ev,hjt];done)|(simp [SV.evs];omega)
   ·have e:xy q={ q with items:=q.items++[⟨3,zi q.block,q.fields⟩],records:=q.records+1,block:=[],fields:=[] }:=by unfold xy;rw [if_neg hb,if_neg hf,if_neg hf]
    simp only [e]
    have hl1:(q.fields.map fldA).length≠0:=by simp [hf]
    apply qd []
    repeat' (first|apply And.intro|(intro h;try exact cDd)|exact⟨Tryz.call169⟩|(refine jj hfc ?_)|exact⟨Tryz.call156⟩|refine cpe hjo ?_|exact cSd|apply qa []|refine exr ?_|refine qh ?_)
    all_goals first|(simp [SV.evs,SV.ev,hjt];done)|(simp [SV.evs];omega)
end Go.Proofs.YtmoklbacdkmkaaaGreatDoor
namespace Go.Pl
open Go Go.Proofs
def ve (p:PSt) (no:Int) (text:qb):PSt:={ p with lines:=[text],frm:=no,full:=decide (p.fields.length=40∨(p.fields.length=0∧p.records=400)) }
def jn (p:PSt) (no:Int) (text:qb) (ended:Bool) (kind:Int):Option (Int×Int)×PSt:=
 if kind=3 then
  if p.lines=[] then (some (no,2),p)
  else if ended=true then (none,{ p with lines:=p.lines++[text] })
  else jr { p with lines:=p.lines++[text] }
 else if kind=1 then endP p
 else jr p
def wq (p:PSt) (no:Int) (text:qb) (ended:Bool):Option (Int×Int)×PSt:=
 match (jn p no text ended (qw text)).1 with
 |some e=>(some e,p)
 |none=>
  if qw text=5∨ended=false then (some (no,2),p)
  else if qw text=1 then (none,{ (jn p no text ended (qw text)).2 with items:=(jn p no text ended (qw text)).2.items++[⟨1,text++[10],[]⟩] })
  else if qw text=4 then (none,{ ve (jn p no text ended (qw text)).2 no text with block:=(jn p no text ended (qw text)).2.block++[text] })
  else (none,{ (jn p no text ended (qw text)).2 with block:=(jn p no text ended (qw text)).2.block++[text] })
end Go.Pl
namespace Go.Proofs.YtmoklbacdkmkaaaGreatDoor
open Go Go.Av Go.RowKit Go.Proofs Go.Pl
theorem PB.more {n m:Nat} {p:PSt} (h:PB n p) (hm:n≤m) (hs:m<900000):PB m p:=by
 have h1:=h.lines;have h2:=h.items;have h3:=h.block;have h4:=h.fields;have h5:=h.rec0;have h6:=h.rec1
 exact⟨hs,by omega,h.linesV,by omega,by omega,h.blockV,by omega,h5,by omega⟩
theorem q37 {n:Nat} {p:PSt} (h:PB n p) (hs:n+1<900000):PB (n+1) (xy p):=by
 have h1:=h.lines;have h2:=h.items;have h3:=h.block;have h4:=h.fields;have h5:=h.rec0;have h6:=h.rec1
 unfold xy
 split
 ·exact⟨hs,by simp only;omega,h.linesV,by simp only;omega,by simp,by simp,by simp,h5,by simp only;omega⟩
 ·refine⟨hs,by simp only;omega,h.linesV,by simp;omega,by simp,by simp,by simp,?_,?_⟩
  ·simp only;split <;> omega
  ·simp only;split <;> omega
theorem qow {n:Nat} {p:PSt} {text:qb} (h:PB n p) (hs:n+1<900000) (ht:text.length<1000000):PB (n+1) { p with lines:=p.lines++[text] }:=by
 have h1:=h.lines;have h2:=h.items;have h3:=h.block;have h4:=h.fields;have h5:=h.rec0;have h6:=h.rec1
 exact⟨hs,by simp;omega,qot h.linesV ht,by simp only;omega,by simp only;omega,h.blockV,by simp only;omega,h5,by simp only;omega⟩
theorem qxj {n:Nat} {p:PSt} {text:qb} (h:PB n p) (hs:n+1<900000) (ht:text.length<1000000):PB (n+1) { p with block:=p.block++[text] }:=by
 have h1:=h.lines;have h2:=h.items;have h3:=h.block;have h4:=h.fields;have h5:=h.rec0;have h6:=h.rec1
 exact⟨hs,by simp only;omega,h.linesV,by simp only;omega,by simp;omega,qot h.blockV ht,by simp only;omega,h5,by simp only;omega⟩
theorem q80 {n:Nat} {p:PSt} {x:zm} (h:PB n p) (hs:n+1<900000):PB (n+1) { p with items:=p.items++[x] }:=by
 have h1:=h.lines;have h2:=h.items;have h3:=h.block;have h4:=h.fields;have h5:=h.rec0;have h6:=h.rec1
 exact⟨hs,by simp only;omega,h.linesV,by simp;omega,by simp only;omega,h.blockV,by simp only;omega,h5,by simp only;omega⟩
theorem q8z {n:Nat} {p:PSt} {no:Int} {text:qb} (h:PB n p) (hs:n+1<900000) (ht:text.length<1000000):PB (n+1) (ve p no text):=by
 have h1:=h.lines;have h2:=h.items;have h3:=h.block;have h4:=h.fields;have h5:=h.rec0;have h6:=h.rec1
 exact⟨hs,by simp [ve],by simp [ve,ht],by simp only [ve];omega,by simp only [ve];omega,h.blockV,by simp only [ve];omega,h5,by simp only [ve];omega⟩
theorem qh8 {n:Nat} {p:PSt} {no:Int} {text:qb} {ended:Bool} {kind:Int} (h:PB n p) (hs:n+2<900000) (ht:text.length<1000000):PB (n+2) (jn p no text ended kind).2:=by
 unfold jn
 split
 ·split
  ·exact h.more (by omega) hs
  ·split
   ·exact (qow h (by omega) ht).more (by omega) hs
   ·exact qfv (qow h (by omega) ht) hs
 ·split
  ·unfold endP
   split
   ·exact h.more (by omega) hs
   ·exact q37 (qfv h (by omega)) hs
  ·exact (qfv h (by omega)).more (by omega) hs
theorem qqs (l:qb):1≤qw l∧qw l≤5:=by
 unfold qw
 repeat' split
 all_goals decide
theorem qo4 {n:Nat} {p:PSt} {no:Int} {text:qb} {ended:Bool} (h:PB n p) (hs:n+4<900000) (ht:text.length<1000000):PB (n+4) (wq p no text ended).2:=by
 have h2:PB (n+2) (jn p no text ended (qw text)).2:=qh8 h (by omega) ht
 unfold wq
 split
 ·exact h.more (by omega) hs
 ·split
  ·exact h.more (by omega) hs
  ·split
   ·exact (q80 h2 (by omega)).more (by omega) hs
   ·split
    ·exact qxj (q8z h2 (by omega) ht) hs ht
    ·exact (qxj h2 (by omega) ht).more (by omega) hs
theorem q5n (n:Nat) (p:PSt) (no at':Int) (text:qb) (ended:Bool) (hB:PB n p):vk E 168 [.bx 0 0,.ag [.i no,.i at',.s text,.b ended]] 5 (hpF (parH 1 p)) ⟨.tu [],vj (parH 1 p),parH 5 (ve p no text)++vt (parH 1 p),9⟩:=by
  refine xc [.bx 0 0,.ag [.i no,.i at',.s text,.b ended]] (parH 1 p) 5 (.tu []) (parH 5 (ve p no text)) 9 Tryz.func168 rfl rfl rfl rfl fun S F ρ=>?_
  obtain⟨ls,fr,fu,its,bk,fs,rc⟩:=p
  have hml:(fs.map fldA).length=fs.length:=by simp
  by_cases ha:fs.length=40∨(fs.length=0∧rc=400)
  · have e:ve ⟨ls,fr,fu,its,bk,fs,rc⟩ no text=⟨[text],no,true,its,bk,fs,rc⟩:=by
      unfold ve
      simp only [decide_eq_true ha]
    rw [e]
    apply qd [29]
    repeat' (first|apply And.intro|(intro h;try exact cDd)|exact cSd|apply qa [29]|refine exr ?_|refine qh ?_)
    all_goals (intros; simp only [hml] at *; first | (exfalso; omega) | (have hrc : rc = 400 := by omega
                                                                         subst hrc;rfl))
  · have e:ve ⟨ls,fr,fu,its,bk,fs,rc⟩ no text=⟨[text],no,false,its,bk,fs,rc⟩:=by
      unfold ve
      simp only [decide_eq_false ha]
    rw [e]
    apply qd [29]
    repeat' (first|apply And.intro|(intro h;try exact cDd)|exact cSd|apply qa [29]|refine exr ?_|refine qh ?_)
    all_goals (intros; simp only [hml] at *; first | (exfalso; omega) | (have hrc : ¬ rc = 400 := by omega
                                                                         simp [SV.evs,SV.ev,SV.rens,SV.ren,lkS,vr,hrc];exact⟨rfl,rfl,rfl⟩))
theorem qtp (n:Nat) (p:PSt) (no at':Int) (text:qb) (ended:Bool) (kind:Int) (hB:PB n p) (hs:n+2<900000) (ht:text.length<1000000):vk E 166 [.bx 0 0,.ag [.i no,.i at',.s text,.b ended],.i kind] 5 (hpF (parH 1 p)) ⟨.a (errP (jn p no text ended kind).1),vj (parH 1 p),parH 5 (jn p no text ended kind).2++vt (parH 1 p),9⟩:=by
 refine xc [.bx 0 0,.ag [.i no,.i at',.s text,.b ended],.i kind] (parH 1 p) 5 (.a (errP (jn p no text ended kind).1)) (parH 5 (jn p no text ended kind).2) 9 Tryz.func166 rfl rfl rfl rfl fun S F ρ=>?_
 unfold jn
 by_cases hk3:kind=3
 ·rw [if_pos hk3]
  by_cases h0:p.lines=[]
  ·rw [if_pos h0]
   have hl0:(p.lines.map fun x=>Sv x).length=0:=by simp [h0]
   have hft:=fun st=>qks no 2 st
   apply qd []
   repeat' (first|apply And.intro|(intro h;try exact cDd)|exact⟨Tryz.call167⟩|refine cpe hft ?_|exact cSd|apply qa []|refine exr ?_|refine qh ?_)
  ·rw [if_neg h0]
   have hl0:(p.lines.map fun x=>Sv x).length≠0:=by simp [h0]
   have hll:=hB.lines
   have hsm:=hB.small
   have hml:(p.lines.map fun x=>Sv x).length=p.lines.length:=by simp
   have hfc:=qok (n+1) { p with lines:=p.lines++[text] } (qow hB (by omega) ht)
   cases ended with
   |true=>
    rw [if_pos rfl]
    apply qd []
    repeat' (first|apply And.intro|(intro h;try exact cDd)|(exact absurd (by assumption:true=false) (by decide))|exact cSd|apply qa []|refine exr ?_|refine qh ?_)
    all_goals first|(simp [SV.evs,SV.ev];done)|(simp [SV.evs];omega)
   |false=>
    rw [if_neg (by decide)]
    apply qd []
    repeat' (first|apply And.intro|(intro h;try exact cDd)|(exact absurd (by assumption:false=true) (by decide))|exact⟨Tryz.call169⟩|(refine jj hfc ?_)|exact cSd|apply qa []|refine exr ?_|refine qh ?_)
    all_goals first|(simp [SV.evs,SV.ev];done)|(simp [SV.evs];omega)
 ·rw [if_neg hk3]
  by_cases hk1:kind=1
  ·rw [if_pos hk1]
   have hfc:=q0m n p hB (by omega)
   apply qd []
   repeat' (first|apply And.intro|(intro h;try exact cDd)|exact⟨Tryz.call103⟩|(refine jj hfc ?_)|exact cSd|apply qa []|refine exr ?_|refine qh ?_)
  ·rw [if_neg hk1]
   have hfc:=qok n p hB
   apply qd []
   repeat' (first|apply And.intro|(intro h;try exact cDd)|exact⟨Tryz.call169⟩|(refine jj hfc ?_)|exact cSd|apply qa []|refine exr ?_|refine qh ?_)
theorem q81 (n:Nat) (p:PSt) (no at':Int) (text:qb) (ended:Bool) (hB:PB n p) (hs:n+4<900000) (ht:text.length<1000000) (hok:(wq p no text ended).1=none):vk E 102 [.bx 0 0,.ag [.i no,.i at',.s text,.b ended]] 5 (hpF (parH 1 p)) ⟨.a (.v .nilIface),vj (parH 1 p),parH 5 (wq p no text ended).2++vt (parH 1 p),9⟩:=by
 refine xc [.bx 0 0,.ag [.i no,.i at',.s text,.b ended]] (parH 1 p) 5 (.a (.v .nilIface)) (parH 5 (wq p no text ended).2) 9 Tryz.func102 rfl rfl rfl rfl fun S F ρ=>?_
 have hfc:=qtp n p no at' text ended (qw text) hB (by omega) ht
 have hB1:=qh8 (no:=no) (text:=text) (ended:=ended) (kind:=qw text) hB (by omega) ht
 have hkr:=qqs text
 have hkd:=fun st=>qhs text st (by omega)
 unfold wq at hok ⊢
 generalize jn p no text ended (qw text)=fq at hfc hB1 hok ⊢
 obtain⟨fe,q⟩:=fq
 cases fe with
 |some e=>exact absurd hok (by simp)
 |none=>
  dsimp only at hB1 hfc hok ⊢
  have h1:=hB1.block
  have h2:=hB1.items
  have hmb:(q.block.map fun x=>Sv x).length=q.block.length:=by simp
  have hmi:(q.items.map z0).length=q.items.length:=by simp
  by_cases hk:qw text=5∨ended=false
  ·rw [if_pos hk] at hok
   exact absurd hok (by simp)
  ·rw [if_neg hk] at hok ⊢
   have hk5:qw text≠5:=fun h=>hk (.inl h)
   obtain rfl:ended=true:=by cases ended <;> simp_all
   by_cases hk1:qw text=1
   ·rw [if_pos hk1]
    apply qd []
    repeat' (first|apply And.intro|(intro h;try exact cDd)|exact⟨Tryz.call165⟩|refine cpe hkd ?_|exact⟨Tryz.call166⟩|(refine jj hfc ?_)|(exact absurd (by assumption:true=false) (by decide))|exact cSd|apply qa []|refine exr ?_|refine qh ?_)
    all_goals first|(simp [SV.evs,SV.ev];done)|(simp [SV.evs];omega)
   ·rw [if_neg hk1]
    by_cases hk4:qw text=4
    ·rw [if_pos hk4]
     have hbc:=q5n (n+2) q no at' text true hB1
     apply qd []
     repeat' (first|apply And.intro|(intro h;try exact cDd)|exact⟨Tryz.call165⟩|refine cpe hkd ?_|exact⟨Tryz.call166⟩|(refine jj hfc ?_)|exact⟨Tryz.call168⟩|(refine jj hbc ?_)|(exact absurd (by assumption:true=false) (by decide))|exact cSd|apply qa []|refine exr ?_|refine qh ?_)
     all_goals first|(simp [SV.evs,SV.ev,ve];done)|(simp [SV.evs,ve];omega)
    ·rw [if_neg hk4]
     apply qd []
     repeat' (first|apply And.intro|(intro h;try exact cDd)|exact⟨Tryz.call165⟩|refine cpe hkd ?_|exact⟨Tryz.call166⟩|(refine jj hfc ?_)|(exact absurd (by assumption:true=false) (by decide))|exact cSd|apply qa []|refine exr ?_|refine qh ?_)
     all_goals first|(simp [SV.evs,SV.ev];done)|(simp [SV.evs];omega)
theorem q82 (n:Nat) (p:PSt) (no at':Int) (text:qb) (ended:Bool) (hB:PB n p) (hs:n+4<900000) (ht:text.length<1000000) (a m:Int) (hok:(wq p no text ended).1=some (a,m)):vk E 102 [.bx 0 0,.ag [.i no,.i at',.s text,.b ended]] 5 (hpF (parH 1 p)) ⟨.a (qft a m),vj (parH 1 p),parH 5 (jn p no text ended (qw text)).2++vt (parH 1 p),9⟩:=by
 refine xc [.bx 0 0,.ag [.i no,.i at',.s text,.b ended]] (parH 1 p) 5 (.a (qft a m)) (parH 5 (jn p no text ended (qw text)).2) 9 Tryz.func102 rfl rfl rfl rfl fun S F ρ=>?_
 have hfc:=qtp n p no at' text ended (qw text) hB (by omega) ht
 have hB1:=qh8 (no:=no) (text:=text) (ended:=ended) (kind:=qw text) hB (by omega) ht
 have hkr:=qqs text
 have hkd:=fun st=>qhs text st (by omega)
 unfold wq at hok
 generalize jn p no text ended (qw text)=fq at hfc hB1 hok ⊢
 obtain⟨fe,q⟩:=fq
 cases fe with
 |some e=>
  dsimp only at hB1 hfc hok ⊢
  obtain rfl:e=(a,m):=by simpa using hok
  apply qd []
  repeat' (first|apply And.intro|(intro h;try exact cDd)|exact⟨Tryz.call165⟩|refine cpe hkd ?_|exact⟨Tryz.call166⟩|(refine jj hfc ?_)|exact cSd|apply qa []|refine exr ?_|refine qh ?_)
 |none=>
  dsimp only at hB1 hfc hok ⊢
  by_cases hk:qw text=5∨ended=false
  ·rw [if_pos hk] at hok
   obtain⟨rfl,rfl⟩:no=a∧2=m:=by simpa using hok
   have hft:=fun st=>qks no 2 st
   cases ended with
   |true=>
    have hk5:qw text=5:=by simpa using hk
    apply qd []
    repeat' (first|apply And.intro|(intro h;try exact cDd)|exact⟨Tryz.call165⟩|refine cpe hkd ?_|exact⟨Tryz.call167⟩|refine cpe hft ?_|exact⟨Tryz.call166⟩|(refine jj hfc ?_)|(exact absurd (by assumption:true=false) (by decide))|exact cSd|apply qa []|refine exr ?_|refine qh ?_)
   |false=>
    apply qd []
    repeat' (first|apply And.intro|(intro h;try exact cDd)|exact⟨Tryz.call165⟩|refine cpe hkd ?_|exact⟨Tryz.call167⟩|refine cpe hft ?_|exact⟨Tryz.call166⟩|(refine jj hfc ?_)|(exact absurd (by assumption:false=true) (by decide))|exact cSd|apply qa []|refine exr ?_|refine qh ?_)
  ·rw [if_neg hk] at hok
   split at hok
   ·simp at hok
   ·split at hok
    ·simp at hok
    ·simp at hok
end Go.Proofs.YtmoklbacdkmkaaaGreatDoor
namespace Go.Pl
open Go Go.Proofs
def p0:PSt:=⟨[],0,false,[],[],[],0⟩
def runL:Nat→List (qb×Bool)→PSt→Option (Int×Int)×PSt
 | _,[],p=>endP p
 |k,(t,e)::r,p=>match (wq p k t e).1 with
  |some x=>(some x,p)
  |none=>runL (k+1) r (wq p k t e).2
def jv (text:qb):Option (Int×Int)×List zm:=match (runL 0 (zl text) p0).1 with
 |some e=>(some e,[])
 |none=>(none,(runL 0 (zl text) p0).2.items)
end Go.Pl
namespace Go.Proofs.YtmoklbacdkmkaaaGreatDoor
open Go Go.Av Go.RowKit Go.Proofs Go.Pl
theorem q4m (x:Option (Int×Int)):Pure (errP x):=by
 rcases x with _ | ⟨a,n⟩
 ·exact qq _
 ·exact qi5 a n
theorem q13 (f:Fld):qjw (fldA f):=fun x hx=>by
 simp only [AV.cells,List.mem_cons,List.not_mem_nil,or_false] at hx
 rcases hx with rfl|rfl <;> exact qq _
theorem qap (fs:List Fld):Pure (zz fs):=qaf fun x hx=>by
 obtain⟨f,_,rfl⟩:=List.mem_map.1 hx
 exact q13 f
theorem qfh (x:zm):qjw (z0 x):=fun y hy=>by
 simp only [AV.cells,List.mem_cons,List.not_mem_nil,or_false] at hy
 rcases hy with rfl|rfl|rfl
 ·exact qq _
 ·exact qq _
 ·exact qap _
theorem yb (xs:List zm):Pure (ji xs):=qaf fun x hx=>by
 obtain⟨f,_,rfl⟩:=List.mem_map.1 hx
 exact qfh f
theorem kg {x y:AV} (hx:Pure x) (hy:Pure y):Pure (.tu [x,y]):=qca fun z hz=>by
 simp only [List.mem_cons,List.not_mem_nil,or_false] at hz
 rcases hz with rfl|rfl
 ·exact hx
 ·exact hy
def qcq (text:qb):AV:=.tu [ji (jv text).2,errP (jv text).1]
theorem qza (text:qb):Pure (qcq text):=kg (yb _) (q4m _)
theorem qns {S:List AObj} {o k:Nat} {x:AObj} (h:k≠o):(S.set o x)[k]? = S[k]?:=List.getElem?_set_ne (Ne.symm h)
theorem q2l:PB 0 p0:=⟨by omega,by simp [p0],by simp [p0],by simp [p0],by simp [p0],by simp [p0],by simp [p0],by simp [p0],by simp [p0]⟩
theorem qo1 (text:qb) (st:List AObj) (hl:text.length≤60000):qm E 58 [Sv text] st fun r st'=>r=qcq text∧st'=st:=by
 refine ze [.s text] (qza text) Tryz.func58 rfl rfl (fun _=>rfl) rfl fun S0=>?_
 apply qd [13]
 repeat' (first|apply And.intro|(intro h;try exact cDd)|exact⟨Tryz.call100⟩|(refine Exists.intro _ ⟨qk2 _,?_⟩)|exact cSd|apply qa [13]|refine exr ?_|refine qh ?_)
 refine qe9 (X:=PSt×Option (Int×Int)) text 4 5 [0,1,2,3,4] (fun (p,e)=>⟨[(2,.bx 0 0),(3,.bx 1 0),(4,.bx 2 0),(15,.fn (.func 163) [] [.bx 4 0])],
   [(0,some (.cells 106 [.a zh])),(1,some (.cells 29 [.a (errP e)])),(2,some (.cells 182 [.bx 3 0])),(3,some (.cells 186 [.tp 5,.i p.frm,.b p.full,.tp 6,.tp 7,.tp 8,.i p.records])),(4,some (.cells 9 [.s text])),
    (5,some (.tip 1 9 (p.lines.map fun x=>Sv x))),(6,some (.tip 3 137 (p.items.map z0))),(7,some (.tip 1 9 (p.block.map fun x=>Sv x))),(8,some (.tip 2 156 (p.fields.map fldA)))],9⟩) _
  (fun k rest (p,e)=>e=none∧PB (4 * k) p∧k+rest.length≤text.length∧runL 0 (zl text) p0=runL k (zl rest) p)
  (fun c (p,e)=>∃ a m,c = .ret∧e=some (a,m)∧(runL 0 (zl text) p0).1=some (a,m)) (p0,none) ⟨rfl,q2l,by omega,rfl⟩ ?_ id (by omega) (fun _=>rfl) rfl (fun _=>rfl) (fun _=>rfl) rfl ?_ ?_ ?_
 ·skip
  repeat' (first|apply And.intro|(intro h;try exact cDd)|exact cSd|apply qa []|refine exr ?_|refine qh ?_)
 ·rintro k rest ⟨p,e⟩ ⟨rfl,hB,hkl,hrun⟩ hne hle
  have hcons:=v7 hne
  have hu:=j8 10 rest
  have hpl:=j9 10 rest
  have hr0:0<rest.length:=List.length_pos_iff.2 hne
  rw [hcons] at hrun
  simp only [runL] at hrun
  unfold qkg
  generalize hen:decide (10∈rest)=en at hrun
  generalize upto 10 rest=up at hu hrun ⊢
  have hB2:=qo4 (no:=k) (text:=up) (ended:=en) hB (by omega) (by omega)
  cases hah:(wq p k up en).1 with
  |some e=>
   obtain⟨a,m⟩:=e
   rw [hah] at hrun
   simp only at hrun
   have htk:=q82 (4 * k) p k ((text.length:Int) - rest.length) up en hB (by omega) (by omega) a m hah
   refine RA.mk fun S F ρ rd=>?_
   apply qd []
   repeat' (first|apply And.intro|(intro h;try exact cDd)|(refine RB.mk fun S rd=>?_;apply qd [])|exact⟨Tryz.call102⟩|(refine jj htk ?_)|(refine Exists.intro ((jn p k up en (qw up)).2,some (a,m)) ⟨⟨a,m,rfl,rfl,by rw [hrun]⟩,?_⟩)|exact cSd|apply qa []|refine exr ?_|refine qh ?_)
   all_goals (rw [← hen];rfl)
  |none=>
   rw [hah] at hrun
   simp only at hrun
   have htk:=q81 (4 * k) p k ((text.length:Int) - rest.length) up en hB (by omega) (by omega) hah
   refine RA.mk fun S F ρ rd=>?_
   apply qd []
   repeat' (first|apply And.intro|(intro h;try exact cDd)|(refine RB.mk fun S rd=>?_;apply qd [])|exact⟨Tryz.call102⟩|(refine jj htk ?_)|(refine Exists.intro ((wq p k up en).2,none) ⟨⟨rfl,hB2,by omega,hrun⟩,?_⟩)|exact cSd|apply qa []|refine exr ?_|refine qh ?_)
   all_goals (rw [← hen];rfl)
 ·rintro k ⟨p,e⟩ ⟨rfl,hB,hkl,hrun⟩
  have hre:runL k (zl []) p=endP p:=by rw [vq];rfl
  rw [hre] at hrun
  have hpe:=q0m (4 * k) p hB (by omega)
  generalize endP p=fq at hrun hpe
  obtain⟨fe,q⟩:=fq
  cases fe with
  |some e=>
   have hpf:qcq text = .tu [ji [],errP (some e)]:=by unfold qcq jv;rw [hrun]
   rw [hpf]
   obtain⟨a,m⟩:=e
   repeat' (first|apply And.intro|(intro h;try exact cDd)|exact⟨Tryz.call103⟩|(refine jj hpe ?_)|exact cSd|apply qa []|refine exr ?_|refine qh ?_)
  |none=>
   have hpf:qcq text = .tu [ji q.items,errP none]:=by unfold qcq jv;rw [hrun]
   rw [hpf]
   dsimp only at hpe
   repeat' (first|apply And.intro|(intro h;try exact cDd)|exact⟨Tryz.call103⟩|(refine jj hpe ?_)|exact cSd|apply qa []|refine exr ?_|refine qh ?_)
 ·rintro c ⟨p,e⟩ ⟨a,m,rfl,rfl,hre⟩
  have hpf:qcq text = .tu [ji [],errP (some (a,m))]:=by unfold qcq jv;rw [hre]
  rw [hpf]
  repeat' (first|apply And.intro|(intro h;try exact cDd)|exact cSd|apply qa []|refine exr ?_|refine qh ?_)
end Go.Proofs.YtmoklbacdkmkaaaGreatDoor
namespace Go.Proofs.YtmoklbacdkmkaaaGreatDoor
open Go Go.RowKit Go.Extern.Stop Go.Stop Go.Extern Go.Proofs
theorem asT.valueOf27 (t:Addr) (w:World):(ReflectliteValue.unpack (.iface 165 (.pointer (some t)))).run Tryz.prog w
  = .ok (.agg #[.pointer (some ⟨9,165,none⟩),.pointer (some ⟨w.heap.size,0,none⟩),.int .u64 150]) (w.alloc (.cells #[.pointer (some t)] 165)):=by kernel_rfl
theorem asT.type27 (a : Addr) (w : World) : (ReflectliteValue.methodAny (ReflectliteValue.valueError "reflectlite.Value.Type" 0) (fun t _ _ _ => ReflectliteType.toType t) #[.agg #[.pointer (some ⟨9, 165, none⟩), .pointer (some a), .int .u64 150]]).run Tryz.prog w
  = .ok (.iface 277 (.agg #[.pointer (some ⟨9,165,none⟩)])) w:=by kernel_rfl
theorem asT.methodKind (h : Value) (w : World) : (Go.method 495 277 (.agg #[h]) "Kind").run Tryz.prog w = .ok (307, h) w := by kernel_rfl
theorem asT.kind27 (w:World):((ReflectliteType.abiMethod fun t=>(fun a:Nat=>Value.int IntKind.u8 (a:Int)) <$> Rtype.kind t) #[.pointer (some ⟨9,165,none⟩)]).run Tryz.prog w = .ok (.int .u8 22) w:=by kernel_rfl
theorem asT.kind25 (w:World):((ReflectliteType.abiMethod fun t=>(fun a:Nat=>Value.int IntKind.u8 (a:Int)) <$> Rtype.kind t) #[.pointer (some ⟨9,101,none⟩)]).run Tryz.prog w = .ok (.int .u8 22) w:=by kernel_rfl
theorem rlm (z:Sem Value) (f:TypeId→Addr→Nat→Nat→Sem Value) (v:Value) :
  ReflectliteValue.method z f #[v]=(do match ← ReflectliteValue.parts v with|none=>z|some (t,a,fl)=>f t a fl (fl % 32)):=rfl
theorem asT.parts27 (a:Addr) (w:World):(ReflectliteValue.parts (.agg #[.pointer (some ⟨9,165,none⟩),.pointer (some a),.int .u64 150])).run Tryz.prog w = .ok (some (165,a,150)) w:=by kernel_rfl
theorem asT.isNil27 (a p:Addr) (W:World) (ha:W.cell? a=some (.pointer (some p))) :
  (ReflectliteValue.method (ReflectliteValue.valueError "reflectlite.Value.IsNil" 0) ReflectliteValue.isNil #[.agg #[.pointer (some ⟨9, 165, none⟩), .pointer (some a), .int .u64 150]]).run Tryz.prog W = .ok (.bool false) W := by
 rw [rlm]
 simp only [Sem.run_bind,asT.parts27,Result.andThen]
 simp [ReflectliteValue.isNil,loadVar,isAgg,underlying,Tryz.underlying165,ha,Result.andThen]
theorem asT.methodElem (h : Value) (w : World) : (Go.method 495 277 (.agg #[h]) "Elem").run Tryz.prog w = .ok (321, .agg #[h]) w := by kernel_rfl
theorem asT.methodImplements (h : Value) (w : World) : (Go.method 495 277 (.agg #[h]) "Implements").run Tryz.prog w = .ok (322, .agg #[h]) w := by kernel_rfl
theorem asT.methodAssignableTo (h : Value) (w : World) : (Go.method 495 277 (.agg #[h]) "AssignableTo").run Tryz.prog w = .ok (319, .agg #[h]) w := by kernel_rfl
theorem asT.elem27 (w:World):(ReflectliteType.method ReflectliteType.elem #[.agg #[.pointer (some ⟨9,165,none⟩)]]).run Tryz.prog w = .ok (.iface 277 (.agg #[.pointer (some ⟨9,101,none⟩)])) w:=by kernel_rfl
theorem asT.implements25 (w : World) : (ReflectliteType.relation "Implements" ReflectliteType.implements_ #[.agg #[.pointer (some ⟨9, 101, none⟩)], .iface 277 (.agg #[.pointer (some ⟨9, 29, none⟩)])]).run Tryz.prog w = .ok (.bool true) w := by kernel_rfl
theorem asT.typeOf25 (v:Value) (w:World):(ReflectliteType.typeOf #[.iface 101 v]).run Tryz.prog w = .ok (.iface 277 (.agg #[.pointer (some ⟨9,101,none⟩)])) w:=by kernel_rfl
theorem asT.assignable25 (w : World) : (ReflectliteType.relation "AssignableTo" ReflectliteType.assignableTo #[.agg #[.pointer (some ⟨9, 101, none⟩)], .iface 277 (.agg #[.pointer (some ⟨9, 101, none⟩)])]).run Tryz.prog w = .ok (.bool true) w := by kernel_rfl
theorem asT.valueOf25 (e:Addr) (w:World):(ReflectliteValue.unpack (.iface 101 (.pointer (some e)))).run Tryz.prog w
  = .ok (.agg #[.pointer (some ⟨9,101,none⟩),.pointer (some ⟨w.heap.size,0,none⟩),.int .u64 150]) (w.alloc (.cells #[.pointer (some e)] 101)):=by kernel_rfl
theorem asT.elemOf27 (w:World):(Rtype.elem? 165).run Tryz.prog w = .ok (some 101) w:=by kernel_rfl
theorem asT.mk25 (p:Addr) (w:World):(ReflectliteValue.mk 101 p ReflectliteValue.flagAddr).run Tryz.prog w = .ok (.agg #[.pointer (some ⟨9,101,none⟩),.pointer (some p),.int .u64 406]) w:=by kernel_rfl
theorem asT.elemV27 (a p:Addr) (W:World) (ha:W.cell? a=some (.pointer (some p))) :
  (ReflectliteValue.method (ReflectliteValue.valueError "reflectlite.Value.Elem" 0) ReflectliteValue.elem #[.agg #[.pointer (some ⟨9, 165, none⟩), .pointer (some a), .int .u64 150]]).run Tryz.prog W
   = .ok (.agg #[.pointer (some ⟨9,101,none⟩),.pointer (some p),.int .u64 406]) W:=by
 rw [rlm]
 simp only [Sem.run_bind,asT.parts27,Result.andThen]
 simp [ReflectliteValue.elem,loadVar,isAgg,underlying,Tryz.underlying165,ha,Result.andThen,asT.elemOf27,asT.mk25]
theorem rls (v x:Value):ReflectliteValue.set #[v,x]=(do
  let (some (dst,a,fl),some (src,b,_)):=(← ReflectliteValue.parts v,← ReflectliteValue.parts x)
   | unsupported (.noEntry "extern/(internal/reflectlite.Value).Set.zeroValue")
  if fl / ReflectliteValue.flagAddr % 2 == 0 then unsupported (.noEntry "extern/(internal/reflectlite.Value).Set.unaddressable")
  let val ← loadVar src b
  if ← Rtype.directlyAssignable dst src then storeVar dst a val
  else if ← Rtype.implements dst src then
   if (← Rtype.kind src) == 20 then
    match val with
    | .nilIface => unsupported (.noEntry "extern/reflectlite: a nil value of one interface type handed on as a value of another")
    | _=>storeVar dst a val
   else storeVar dst a (.iface src val)
  else panicString ("reflectlite.Set: value of type " ++ (← Rtype.spelt src) ++ " is not assignable to type " ++ (← Rtype.spelt dst))
  pure (.tuple #[])):=rfl
theorem asT.parts25a (a:Addr) (w:World):(ReflectliteValue.parts (.agg #[.pointer (some ⟨9,101,none⟩),.pointer (some a),.int .u64 406])).run Tryz.prog w = .ok (some (101,a,406)) w:=by kernel_rfl
theorem asT.parts25 (a:Addr) (w:World):(ReflectliteValue.parts (.agg #[.pointer (some ⟨9,101,none⟩),.pointer (some a),.int .u64 150])).run Tryz.prog w = .ok (some (101,a,150)) w:=by kernel_rfl
theorem asT.direct25 (w:World):(Rtype.directlyAssignable 101 101).run Tryz.prog w = .ok true w:=by kernel_rfl
theorem asT.set25 (ta b e:Addr) (old:Value) (W:World) (hb:W.cell? b=some (.pointer (some e))) (ht:W.cell? ta=some old) (hf:W.frozen? ta=false) :
  (ReflectliteValue.set #[.agg #[.pointer (some ⟨9,101,none⟩),.pointer (some ta),.int .u64 406],.agg #[.pointer (some ⟨9,101,none⟩),.pointer (some b),.int .u64 150]]).run Tryz.prog W
   = .ok (.tuple #[]) (W.setCell ta (.pointer (some e))):=by
 rw [rls]
 simp only [Sem.run_bind,asT.parts25a,asT.parts25,Result.andThen]
 simp [ReflectliteValue.flagAddr,loadVar,isAgg,underlying,Tryz.underlying101,hb,Result.andThen,asT.direct25,storeVar,Value.cells,storeCells,Addr.add]
 rw [run_store Tryz.prog W ta _ _ (by rfl)]
 simp [ht,hf]
set_option maxHeartbeats 4000000 in
theorem zcm (e t:Addr) (old:Value) (w:World) (hg:w.cell? ⟨0,0,none⟩=some (.iface 277 (.agg #[.pointer (some ⟨9,29,none⟩)]))) (ht0:w.cell? t=some old) (hf0:w.frozen? t=false) :
  Calls Tryz.prog 85 #[.iface 101 (.pointer (some e)),.iface 165 (.pointer (some t))] w fun ev w'=>ev = .returned (.bool true)∧w'=((((w.alloc (.cells #[.pointer (some t)] 165)).alloc (.cells #[.pointer (some ⟨9,165,none⟩),.pointer (some ⟨w.heap.size,0,none⟩),.int .u64 150] 233)).alloc (.cells #[.pointer (some ⟨9,165,none⟩),.pointer (some ⟨w.heap.size,0,none⟩),.int .u64 150] 233)).alloc (.cells #[.pointer (some e)] 101)).setCell t (.pointer (some e)):=by
 have h6:=@run_callFunc_extern Tryz.prog 150 _ (fun args=>ReflectliteValue.unpack (args.getD 0 (.tuple #[]))) Tryz.func150 (by kernel_rfl) (by kernel_rfl) (by kernel_rfl) (by kernel_rfl)
 have h7 := @run_callFunc_extern Tryz.prog 151 _ (ReflectliteValue.methodAny (ReflectliteValue.valueError "reflectlite.Value.Type" 0) (fun t _ _ _ => ReflectliteType.toType t)) Tryz.func151 (by kernel_rfl) (by kernel_rfl) (by kernel_rfl) (by kernel_rfl)
 have h8 := @run_callFunc_extern Tryz.prog 152 _ (ReflectliteValue.method (ReflectliteValue.valueError "reflectlite.Value.IsNil" 0) ReflectliteValue.isNil) Tryz.func152 (by kernel_rfl) (by kernel_rfl) (by kernel_rfl) (by kernel_rfl)
 have h27:=@run_callFunc_extern Tryz.prog 307 _ (ReflectliteType.abiMethod fun t=>do pure (.int .u8 (← Rtype.kind t))) Tryz.func307 (by kernel_rfl) (by kernel_rfl) (by kernel_rfl) (by kernel_rfl)
 have h37:=@run_callFunc_extern Tryz.prog 321 _ (ReflectliteType.method ReflectliteType.elem) Tryz.func321 (by kernel_rfl) (by kernel_rfl) (by kernel_rfl) (by kernel_rfl)
 have h38 := @run_callFunc_extern Tryz.prog 322 _ (ReflectliteType.relation "Implements" ReflectliteType.implements_) Tryz.func322 (by kernel_rfl) (by kernel_rfl) (by kernel_rfl) (by kernel_rfl)
 have h10:=@run_callFunc_extern Tryz.prog 148 _ ReflectliteType.typeOf Tryz.func148 (by kernel_rfl) (by kernel_rfl) (by kernel_rfl) (by kernel_rfl)
 have h35 := @run_callFunc_extern Tryz.prog 319 _ (ReflectliteType.relation "AssignableTo" ReflectliteType.assignableTo) Tryz.func319 (by kernel_rfl) (by kernel_rfl) (by kernel_rfl) (by kernel_rfl)
 have h11 := @run_callFunc_extern Tryz.prog 199 _ (ReflectliteValue.method (ReflectliteValue.valueError "reflectlite.Value.Elem" 0) ReflectliteValue.elem) Tryz.func199 (by kernel_rfl) (by kernel_rfl) (by kernel_rfl) (by kernel_rfl)
 have h12:=@run_callFunc_extern Tryz.prog 200 _ ReflectliteValue.set Tryz.func200 (by kernel_rfl) (by kernel_rfl) (by kernel_rfl) (by kernel_rfl)
 have tO:=asT.typeOf25
 have mA:=asT.methodAssignableTo
 have a25:=asT.assignable25
 have v25:=asT.valueOf25
 have f6:=asT.valueOf27
 have f7:=asT.type27
 have mK:=asT.methodKind
 have mE:=asT.methodElem
 have mI:=asT.methodImplements
 have k27:=asT.kind27
 have k25:=asT.kind25
 have e27:=asT.elem27
 have i25:=asT.implements25
 have n8:=asT.isNil27 ⟨w.heap.size,0,none⟩ t ((w.alloc (.cells #[.pointer (some t)] 165)).alloc (.cells #[.pointer (some ⟨9,165,none⟩),.pointer (some ⟨w.heap.size,0,none⟩),.int .u64 150] 233)) (by simp)
 have hlt:0<w.heap.size:=by
  rcases Nat.lt_or_ge 0 w.heap.size with h|h
  ·exact h
  ·simp [World.cell?,Array.getElem?_eq_none h] at hg
 have hg2:((w.alloc (.cells #[.pointer (some t)] 165)).alloc (.cells #[.pointer (some ⟨9,165,none⟩),.pointer (some ⟨w.heap.size,0,none⟩),.int .u64 150] 233)).cell? ⟨0,0,none⟩=some (.iface 277 (.agg #[.pointer (some ⟨9,29,none⟩)])):=by
  rw [World.cell?_alloc_lt _ _ ⟨0,0,none⟩ (by first|(simp;done)|(simp;omega)),World.cell?_alloc_lt _ _ ⟨0,0,none⟩ hlt];exact hg
 have htl:t.block<w.heap.size:=by
  rcases Nat.lt_or_ge t.block w.heap.size with h|h
  ·exact h
  ·simp [World.cell?,Array.getElem?_eq_none h] at ht0
 have el:=asT.elemV27 ⟨w.heap.size,0,none⟩ t (((w.alloc (.cells #[.pointer (some t)] 165)).alloc (.cells #[.pointer (some ⟨9,165,none⟩),.pointer (some ⟨w.heap.size,0,none⟩),.int .u64 150] 233)).alloc (.cells #[.pointer (some ⟨9,165,none⟩),.pointer (some ⟨w.heap.size,0,none⟩),.int .u64 150] 233)) (by rw [World.cell?_alloc_lt _ _ ⟨w.heap.size,0,none⟩ (by first|(simp;done)|(simp;omega))];simp)
 have st:=asT.set25 t ⟨w.heap.size+1+1+1,0,none⟩ e old ((((w.alloc (.cells #[.pointer (some t)] 165)).alloc (.cells #[.pointer (some ⟨9,165,none⟩),.pointer (some ⟨w.heap.size,0,none⟩),.int .u64 150] 233)).alloc (.cells #[.pointer (some ⟨9,165,none⟩),.pointer (some ⟨w.heap.size,0,none⟩),.int .u64 150] 233)).alloc (.cells #[.pointer (some e)] 101))
  (by rw [World.cell?_alloc_at _ _ _ _ (by simp)];rfl)
  (by rw [World.cell?_alloc_lt _ _ t (by first|(simp;done)|(simp;omega)),World.cell?_alloc_lt _ _ t (by first|(simp;done)|(simp;omega)),World.cell?_alloc_lt _ _ t (by first|(simp;done)|(simp;omega)),World.cell?_alloc_lt _ _ t htl];exact ht0)
  (by rw [World.frozen?_alloc_old _ _ t (by first|(simp;done)|(simp;omega)),World.frozen?_alloc_old _ _ t (by first|(simp;done)|(simp;omega)),World.frozen?_alloc_old _ _ t (by first|(simp;done)|(simp;omega)),World.frozen?_alloc_old _ _ t (Nat.ne_of_lt htl)];exact hf0)
 go_enter Tryz.func85,Tryz.ntmps85
 go_wp2
 refine wp_loop_rounds 1 ?_
 rw [rounds_succ]
 go_wp2
 go_ret
 exact⟨rfl,rfl⟩
theorem asT.typeOf31 (v:Value) (w:World):(ReflectliteType.typeOf #[.iface 76 v]).run Tryz.prog w = .ok (.iface 277 (.agg #[.pointer (some ⟨9,76,none⟩)])) w:=by kernel_rfl
theorem asT.assignable31 (w : World) : (ReflectliteType.relation "AssignableTo" ReflectliteType.assignableTo #[.agg #[.pointer (some ⟨9, 76, none⟩)], .iface 277 (.agg #[.pointer (some ⟨9, 101, none⟩)])]).run Tryz.prog w = .ok (.bool false) w := by kernel_rfl
theorem asT.no230 (v:Value) (xT:TypeId) (w:World):(Instr.typeAssert (.iface 76 v) xT 288 true).run Tryz.prog w = .ok (.tuple #[.nilIface,.bool false]) w:=run_typeAssert_lacksB Tryz.underlying288 (by kernel_rfl) (by kernel_rfl) v xT w
theorem asT.no233 (v:Value) (xT:TypeId) (w:World):(Instr.typeAssert (.iface 76 v) xT 282 true).run Tryz.prog w = .ok (.tuple #[.nilIface,.bool false]) w:=run_typeAssert_lacksB Tryz.underlying282 (by kernel_rfl) (by kernel_rfl) v xT w
theorem asT.no234 (v:Value) (xT:TypeId) (w:World):(Instr.typeAssert (.iface 76 v) xT 283 true).run Tryz.prog w = .ok (.tuple #[.nilIface,.bool false]) w:=run_typeAssert_lacksB Tryz.underlying283 (by kernel_rfl) (by kernel_rfl) v xT w
set_option maxHeartbeats 4000000 in
theorem zaj (n:Int) (t:Addr) (old:Value) (w:World) (hg:w.cell? ⟨0,0,none⟩=some (.iface 277 (.agg #[.pointer (some ⟨9,29,none⟩)]))) (ht0:w.cell? t=some old) :
  Calls Tryz.prog 85 #[.iface 76 (.int .i64 n),.iface 165 (.pointer (some t))] w fun ev w'=>ev = .returned (.bool false)∧Below w.heap.size w w':=by
 have h6:=@run_callFunc_extern Tryz.prog 150 _ (fun args=>ReflectliteValue.unpack (args.getD 0 (.tuple #[]))) Tryz.func150 (by kernel_rfl) (by kernel_rfl) (by kernel_rfl) (by kernel_rfl)
 have h7 := @run_callFunc_extern Tryz.prog 151 _ (ReflectliteValue.methodAny (ReflectliteValue.valueError "reflectlite.Value.Type" 0) (fun t _ _ _ => ReflectliteType.toType t)) Tryz.func151 (by kernel_rfl) (by kernel_rfl) (by kernel_rfl) (by kernel_rfl)
 have h8 := @run_callFunc_extern Tryz.prog 152 _ (ReflectliteValue.method (ReflectliteValue.valueError "reflectlite.Value.IsNil" 0) ReflectliteValue.isNil) Tryz.func152 (by kernel_rfl) (by kernel_rfl) (by kernel_rfl) (by kernel_rfl)
 have h27:=@run_callFunc_extern Tryz.prog 307 _ (ReflectliteType.abiMethod fun t=>do pure (.int .u8 (← Rtype.kind t))) Tryz.func307 (by kernel_rfl) (by kernel_rfl) (by kernel_rfl) (by kernel_rfl)
 have h37:=@run_callFunc_extern Tryz.prog 321 _ (ReflectliteType.method ReflectliteType.elem) Tryz.func321 (by kernel_rfl) (by kernel_rfl) (by kernel_rfl) (by kernel_rfl)
 have h38 := @run_callFunc_extern Tryz.prog 322 _ (ReflectliteType.relation "Implements" ReflectliteType.implements_) Tryz.func322 (by kernel_rfl) (by kernel_rfl) (by kernel_rfl) (by kernel_rfl)
 have h10:=@run_callFunc_extern Tryz.prog 148 _ ReflectliteType.typeOf Tryz.func148 (by kernel_rfl) (by kernel_rfl) (by kernel_rfl) (by kernel_rfl)
 have h35 := @run_callFunc_extern Tryz.prog 319 _ (ReflectliteType.relation "AssignableTo" ReflectliteType.assignableTo) Tryz.func319 (by kernel_rfl) (by kernel_rfl) (by kernel_rfl) (by kernel_rfl)
 have h11 := @run_callFunc_extern Tryz.prog 199 _ (ReflectliteValue.method (ReflectliteValue.valueError "reflectlite.Value.Elem" 0) ReflectliteValue.elem) Tryz.func199 (by kernel_rfl) (by kernel_rfl) (by kernel_rfl) (by kernel_rfl)
 have h12:=@run_callFunc_extern Tryz.prog 200 _ ReflectliteValue.set Tryz.func200 (by kernel_rfl) (by kernel_rfl) (by kernel_rfl) (by kernel_rfl)
 have tO:=asT.typeOf31
 have mA:=asT.methodAssignableTo
 have a25:=asT.assignable31
 have f6:=asT.valueOf27
 have f7:=asT.type27
 have mK:=asT.methodKind
 have mE:=asT.methodElem
 have mI:=asT.methodImplements
 have k27:=asT.kind27
 have k25:=asT.kind25
 have e27:=asT.elem27
 have i25:=asT.implements25
 have n8:=asT.isNil27 ⟨w.heap.size,0,none⟩ t ((w.alloc (.cells #[.pointer (some t)] 165)).alloc (.cells #[.pointer (some ⟨9,165,none⟩),.pointer (some ⟨w.heap.size,0,none⟩),.int .u64 150] 233)) (by simp)
 have hlt:0<w.heap.size:=by
  rcases Nat.lt_or_ge 0 w.heap.size with h|h
  ·exact h
  ·simp [World.cell?,Array.getElem?_eq_none h] at hg
 have hg2:((w.alloc (.cells #[.pointer (some t)] 165)).alloc (.cells #[.pointer (some ⟨9,165,none⟩),.pointer (some ⟨w.heap.size,0,none⟩),.int .u64 150] 233)).cell? ⟨0,0,none⟩=some (.iface 277 (.agg #[.pointer (some ⟨9,29,none⟩)])):=by
  rw [World.cell?_alloc_lt _ _ ⟨0,0,none⟩ (by first|(simp;done)|(simp;omega)),World.cell?_alloc_lt _ _ ⟨0,0,none⟩ hlt];exact hg
 have htl:t.block<w.heap.size:=by
  rcases Nat.lt_or_ge t.block w.heap.size with h|h
  ·exact h
  ·simp [World.cell?,Array.getElem?_eq_none h] at ht0
 have n1:=asT.no230
 have n2:=asT.no233
 have n3:=asT.no234
 go_enter Tryz.func85,Tryz.ntmps85
 go_wp2
 refine wp_loop_rounds 1 ?_
 rw [rounds_succ]
 go_wp2
 go_ret
 exact⟨rfl,(((Below.refl _ _).alloc (Nat.le_refl _) _).alloc (by simp) _).alloc (by first|(simp;done)|(simp;omega)) _⟩
end Go.Proofs.YtmoklbacdkmkaaaGreatDoor
namespace Go.Proofs.YtmoklbacdkmkaaaGreatDoor
open Go Go.Av Go.RowKit Go.Proofs Go.Pl
theorem qzo {w:World} {b:Nat} {T:TypeId} {fz:Nat×Nat} {c:Array Value} (v:Value) (hc:w.heap[b]? = some (.cells c T fz)) (h1:c.size=1):w.setCell ⟨b,0,none⟩ v=w.setRow b #[v]:=by
 unfold World.setCell World.setRow
 congr 1
 apply Array.ext_getElem?
 intro i
 rw [Array.getElem?_modify,Array.getElem?_modify]
 by_cases hi:b=i
 ·subst hi
  rw [if_pos rfl,if_pos rfl,hc]
  have:c.setIfInBounds 0 v = #[v]:=by
   apply Array.ext
   ·simp [h1]
   ·intro i h2 h3
    have:i=0:=by simp at h3;omega
    subst this
    simp
  simp [this]
 ·rw [if_neg hi,if_neg hi]
theorem zai (a n:Int) (o:Nat) (st:List AObj) (ho:st[o]? = some (.cells 0 101 [.v (.pointer none)])):qm E 85 [qft a n,.ifc 165 (.bx o 0 0)] st fun r st'=>r=Bv true∧st'=st.set o (.cells 0 101 [.pp [Iv a,.ifc 76 (Iv n)]]):=by
 refine⟨fun B0 w0 G vals w hL hA hR=>?_⟩
 obtain⟨v1,v2,rfl⟩:∃ x y,vals = #[x,y]:=by
  have:=hR.1
  match vals,this with
  | ⟨[x,y]⟩,_=>exact⟨x,y,rfl⟩
 have h1:=hR.2 0 _ v1 rfl rfl
 have h2:=hR.2 1 _ v2 rfl rfl
 unfold qft at h1
 cases h1 with
 |ifc _ _ y1 h1=>
  cases h2 with
  |ifc _ _ y2 h2=>
   have hpp:=h1
   cases h1 with
   |pp _ b off pub hp hlen hr=>
    cases h2 with
    |bx _ _ _ b2 hn hv hb=>
     obtain⟨_,g1,g2,g3,c,g4,g5,g6⟩:=hA.ob o _ ho
     have hb:=hb g1
     subst hb
     have hc1:c.size=1:=by simpa using g5.symm
     have hl:=(hL w hA.below).ert
     have hcell:w.cell? ⟨(G.ob o).blk,0,none⟩=some c[0]:=by simp [World.cell?,g4,hc1]
     have hfz:w.frozen? ⟨(G.ob o).blk,0,none⟩=false:=by simp [World.frozen?,g4]
     have hlt:(G.ob o).blk<w.heap.size:=(Array.getElem?_eq_some_iff.1 g4).1
     refine (zcm ⟨b,off,none⟩ ⟨(G.ob o).blk,0,none⟩ c[0] w hl hcell hfz).mono ?_
     rintro e w' ⟨rfl,rfl⟩
     have hb1:Below w.heap.size w ((((w.alloc (.cells #[.pointer (some ⟨(G.ob o).blk,0,none⟩)] 165)).alloc (.cells #[.pointer (some ⟨9,165,none⟩),.pointer (some ⟨w.heap.size,0,none⟩),.int .u64 150] 233)).alloc (.cells #[.pointer (some ⟨9,165,none⟩),.pointer (some ⟨w.heap.size,0,none⟩),.int .u64 150] 233)).alloc (.cells #[.pointer (some ⟨b,off,none⟩)] 101)):=
      ((((Below.refl _ _).alloc (Nat.le_refl _) _).alloc (by simp) _).alloc (by first|(simp;done)|(simp;omega)) _).alloc (by first|(simp;done)|(simp;omega)) _
     have hA1:=hA.fresh hb1
     obtain⟨_,k1,k2,k3,c',k4,k5,k6⟩:=hA1.ob o _ ho
     have hc1':c'.size=1:=by simpa using k5.symm
     refine⟨.bool true,G,Bv true,_,rfl,.refl G,?_,.v _,rfl,rfl⟩
     rw [qzo _ k4 hc1']
     exact hA1.setRow ho (by simp) fun i x y hx hy=>by
      match i with
      | 0=>simp at hx hy;subst hx;subst hy;exact hpp
      |i+1=>simp at hx
theorem q68 (n:Int) (o:Nat) (st:List AObj) (ho:st[o]? = some (.cells 0 101 [.v (.pointer none)])):qm E 85 [.ifc 76 (Iv n),.ifc 165 (.bx o 0 0)] st fun r st'=>r=Bv false∧st'=st:=by
 refine⟨fun B0 w0 G vals w hL hA hR=>?_⟩
 obtain⟨v1,v2,rfl⟩:∃ x y,vals = #[x,y]:=by
  have:=hR.1
  match vals,this with
  | ⟨[x,y]⟩,_=>exact⟨x,y,rfl⟩
 have h1:=hR.2 0 _ v1 rfl rfl
 have h2:=hR.2 1 _ v2 rfl rfl
 cases h1 with
 |ifc _ _ y1 h1=>
  cases h2 with
  |ifc _ _ y2 h2=>
   cases h1 with
   |v=>
    cases h2 with
    |bx _ _ _ b2 hn hv hb=>
     obtain⟨_,g1,g2,g3,c,g4,g5,g6⟩:=hA.ob o _ ho
     have hb:=hb g1
     subst hb
     have hc1:c.size=1:=by simpa using g5.symm
     have hl:=(hL w hA.below).ert
     have hcell:w.cell? ⟨(G.ob o).blk,0,none⟩=some c[0]:=by simp [World.cell?,g4,hc1]
     refine (zaj n ⟨(G.ob o).blk,0,none⟩ c[0] w hl hcell).mono ?_
     rintro e w' ⟨rfl,hb⟩
     exact⟨_,G,Bv false,st,rfl,.refl G,hA.fresh hb,.v _,rfl,rfl⟩
end Go.Proofs.YtmoklbacdkmkaaaGreatDoor
namespace Go.Proofs.YtmoklbacdkmkaaaGreatDoor
open Go Go.Av Go.RowKit Go.Extern.Stop Go.Stop Go.Extern Go.Proofs
theorem isT.has (v:Value) (xT:TypeId) (w:World):(Instr.typeAssert (.iface 101 v) xT 282 true).run Tryz.prog w = .ok (.tuple #[.iface 101 v,.bool true]) w:=run_typeAssert_hasB Tryz.underlying282 (by kernel_rfl) v xT w
theorem isT.typeOf (v:Value) (w:World):(ReflectliteType.typeOf #[.iface 76 v]).run Tryz.prog w = .ok (.iface 277 (.agg #[.pointer (some ⟨9,76,none⟩)])) w:=by kernel_rfl
theorem isT.cmp (w : World) : (ReflectliteType.method (fun t => do Rtype.noPackHeld "Comparable" t; (fun a => Value.bool a.comparable) <$> typeInfo t) #[.agg #[.pointer (some ⟨9, 76, none⟩)]]).run Tryz.prog w = .ok (.bool true) w := by kernel_rfl
end Go.Proofs.YtmoklbacdkmkaaaGreatDoor
namespace Go.Pl
open Go Go.Proofs
inductive ErrV where
 |no
 |num (n:Int)
 |at' (a n:Int)
 deriving DecidableEq
def ErrV.code:ErrV→Int
 | .no=>0
 | .num n=>n
 | .at' _ n=>n
def ErrV.pos:ErrV→Int
 | .no=> -9
 | .num _=> -9
 | .at' a _=>a
def ww:Nat→List Fld→ErrV
 | _,[]=>.no
 |k,f::r=>if kc f=0 then ww (k+1) r else .at' k (kc f)
def jl (fs:List Fld):ErrV:=if fs=[] then .num 2 else if 40<fs.length then .num 11 else ww 0 fs
theorem qlw:∀ (k:Nat) (r:List Fld),(ww k r).code=0↔ww k r = .no
 |k,[]=>by simp [ww,ErrV.code]
 |k,f::r=>by
  unfold ww
  split
  ·exact qlw _ r
  ·rename_i h
   simp [ErrV.code,h]
theorem qhf (fs:List Fld):(jl fs).code=0↔jl fs = .no:=by
 unfold jl
 split
 ·simp [ErrV.code]
 ·split
  ·simp [ErrV.code]
  ·exact qlw _ _
end Go.Pl
namespace Go.Proofs.YtmoklbacdkmkaaaGreatDoor
open Go Go.Av Go.RowKit Go.Proofs Go.Pl
theorem qr7 {st st':List AObj} (h:∀ k,k<st.length→st'[k]? = st[k]?):∃ ext,st'=st++ext:=by
 refine qj7 ?_ h
 rcases Nat.eq_zero_or_pos st.length with h0|h0
 ·omega
 ·have h1:=h (st.length - 1) (by omega)
  have h2:st[st.length - 1]? = some (st[st.length - 1]'(by omega)):=List.getElem?_eq_getElem (by omega)
  have:=lt_of_getElem? (h1.trans h2)
  omega
def gErr (x:qu):ErrV:=if x.kind=2 then (if x.fields=[] then .no else .num 2) else if x.kind=1∨x.kind=3 then jl x.fields else .num 2
def yr:Nat→List qu→ErrV
 | _,[]=>.no
 |k,x::r=>if (gErr x).code=0 then yr (k+1) r else .at' k (gErr x).code
def eErr (b:List qu):ErrV:=if b.length<1∨40<b.length then .num 1 else yr 0 b
theorem ql5 (x:qu):(gErr x).code=0↔gErr x = .no:=by
 unfold gErr
 split
 ·split <;> simp [ErrV.code]
 ·split
  ·exact qhf _
  ·simp [ErrV.code]
theorem qp9:∀ (k:Nat) (r:List qu),(yr k r).code=0↔yr k r = .no
 |k,[]=>by simp [yr,ErrV.code]
 |k,f::r=>by
  unfold yr
  split
  ·exact qp9 _ r
  ·rename_i h
   simp [ErrV.code] at h ⊢
   exact h
theorem qdy (b:List qu):(eErr b).code=0↔eErr b = .no:=by
 unfold eErr
 split
 ·simp [ErrV.code]
 ·exact qp9 _ _
def errA:ErrV→AV
 | .no=>.v .nilIface
 | .num n=>.ifc 76 (Iv n)
 | .at' a n=>.ifc 101 (.pp [Iv a,.ifc 76 (Iv n)])
theorem kp (e:ErrV):Pure (errA e):=by
 cases e with
 |no=>exact qq _
 |num n=>exact qbx (qq _)
 |at' a n=>exact qi5 a n
def KeyB (fs:List Fld):Prop:=∀ f∈fs,f.1.length<4294967281
theorem qwe {fs:List Fld} {i:Nat} {x:Fld} (h:fs[i]? = some x):(fs.map fldA)[i]? = some (fldA x):=by simp [h]
theorem qil {b:List qu} {i:Nat} {x:qu} (h:b[i]? = some x):(b.map j6)[i]? = some (j6 x):=by simp [h]
theorem qs0 {fs:List Fld} (h:¬ 0<fs.length):jl fs = .num 2:=if_pos (List.length_eq_zero_iff.1 (by omega))
theorem qp1 {fs:List Fld} (h:40<fs.length):jl fs = .num 11:=(if_neg fun h0=>by simp [h0] at h).trans (if_pos h)
theorem qs1 {fs:List Fld} (h0:0<fs.length) (h:¬ 40<fs.length):jl fs=ww 0 fs:=(if_neg (List.length_pos_iff.1 h0)).trans (if_neg h)
theorem qkr (fs:List Fld) (st:List AObj) (e:ErrV) (h:jl fs=e) (hK:KeyB fs) (hl:fs.length<9223372036854775808):qm E 185 [zz fs] st fun r st'=>r=errA e∧st'=st:=by
 subst h
 refine ze [.a (zz fs)] (kp _) Tryz.func185 rfl rfl (fun _=>rfl) rfl fun S0=>?_
 have hml:(fs.map fldA).length=fs.length:=by simp
 apply qd []
 repeat' (first|apply And.intro|(intro h;try exact cDd)|exact cSd|apply qa []|refine exr ?_|refine qh ?_)
 ·rw [qs0 (by omega)];rfl
 ·rw [qp1 (by omega)];rfl
 rw [qs1 (by omega) (by omega)]
 refine zq (X:=Nat) (fun k=>⟨[(16,.a (zz fs)),(17,.i (fs.map fldA).length),(18,.i k)],[],0⟩) (fun k=>k≤fs.length∧ww k (fs.drop k)=ww 0 fs) (fun k=>fs.length - k) 0 ⟨by omega,rfl⟩ ?_ ?_
 ·skip
  repeat' (first|apply And.intro|(intro h;try exact cDd)|exact cSd|apply qa []|refine exr ?_|refine qh ?_)
 ·rintro k ⟨hk,hc⟩
  by_cases hlt:k<fs.length
  ·obtain⟨y,hy⟩:∃ y,fs[k]? = some y:=⟨_,List.getElem?_eq_getElem hlt⟩
   have hget:=qwe hy
   have hky:=hK y (List.mem_of_getElem? hy)
   obtain⟨_,hye⟩:=List.getElem?_eq_some_iff.1 hy
   rw [List.drop_eq_getElem_cons hlt,hye,ww] at hc
   rw [← hc]
   by_cases ha:kc y=0
   ·have hc4:=fun st=>qhl y st hky ha
    apply qd [4]
    repeat' (first|apply And.intro|(intro h;try exact cDd)|(refine Exists.intro (k) ⟨by omega,_,hget,?_⟩)|exact⟨Tryz.call226⟩|refine cpe hc4 ?_|(refine Exists.intro (k+1) ⟨⟨by omega,by simp_all⟩,by omega,?_⟩)|exact cSd|apply qa [4]|refine exr ?_|refine qh ?_)
   ·have hc4:=fun st=>qhm y st hky ha
    rw [if_neg ha]
    apply qd [4]
    repeat' (first|apply And.intro|(intro h;try exact cDd)|(refine Exists.intro (k) ⟨by omega,_,hget,?_⟩)|exact⟨Tryz.call226⟩|refine cpe hc4 ?_|exact cSd|apply qa [4]|refine exr ?_|refine qh ?_)
  ·rw [List.drop_eq_nil_of_le (by omega),ww] at hc
   rw [← hc]
   apply qd []
   repeat' (first|apply And.intro|(intro h;try exact cDd)|exact cSd|apply qa []|refine exr ?_|refine qh ?_)
theorem za2 (x:qu) (st:List AObj) (e:ErrV) (h:gErr x=e) (hK:KeyB x.fields) (hl:x.fields.length<9223372036854775808):qm E 129 [j6 x] st fun r st'=>r=errA e∧st'=st:=by
 subst h
 refine ze [.a (j6 x)] (kp _) Tryz.func129 rfl rfl (fun _=>rfl) rfl fun S0=>?_
 have hml:(x.fields.map fldA).length=x.fields.length:=by simp
 have hpos:x.fields=[]↔x.fields.length=0:=by simp
 have hc6:=fun st=>qkr x.fields st _ rfl hK hl
 unfold gErr
 simp only [hpos]
 generalize jl x.fields=e at *
 cases e
 all_goals apply qd [1]
 repeat' (first|apply And.intro|(intro h;try exact cDd)|exact⟨Tryz.call185⟩|refine cpe hc6 ?_|exact cSd|apply qa [1]|refine exr ?_|refine qh ?_)
 all_goals clear hc6
 all_goals grind [errA]
theorem q7w (n:Int) (st:List AObj):qm E 134 [.ifc 76 (Iv n)] st fun r st'=>r = .ifc 76 (Iv n)∧st'=st:=by
 refine qy (qbx (qq _)) (qp Tryz.func134 rfl (Nat.le_of_ble_eq_true rfl) ?_)
 repeat' (first|apply ql|apply qe|apply qf|apply qi|apply qg|(apply qc;exact rfl;apply cd_f;exact cRa)|(apply jq;exact rfl;exact rfl)|(apply ja;exact rfl;exact rfl)|apply qs|apply qt|(apply qk;exact Tryz.call85;exact q68 _ (st.length+0) _ (jb rfl)))
 exact qn rfl (q9 rfl) ⟨rfl,_,rfl⟩
theorem q7v (a n:Int) (st:List AObj):qm E 134 [qft a n] st fun r st'=>r = .ifc 76 (Iv n)∧st'=st:=by
 refine qy (qbx (qq _)) (qp Tryz.func134 rfl (Nat.le_of_ble_eq_true rfl) ?_)
 repeat' (first|apply ql|apply qe|apply qf|apply qi|apply qg|(apply qc;exact rfl;apply cd_t;exact cRa)|(apply jq;exact rfl;exact rfl)|(apply ja;exact rfl;exact rfl)|(apply xo;(iterate 4 exact rfl))|(apply zo;(iterate 3 exact rfl))|(apply v6;exact rfl;exact rfl)|apply qt|(apply qk;exact Tryz.call85;exact zai a n (st.length+0) _ (jb rfl))|(apply ka;exact rfl;(focus first|assumption|(repeat' (first|assumption|exact xd|exact jb rfl|apply jy|apply kf|omega|apply qa6)));exact rfl;exact rfl))
 exact qn rfl (q9 rfl) ⟨rfl,qr7 fun j hj=>(qns (by omega)).trans (List.getElem?_append_left hj)⟩
theorem qoe (k:Int) (e:ErrV) (st:List AObj) (he:e.code≠0):qm E 74 [Iv k,errA e] st fun r st'=>r=errA (.at' k e.code)∧st'=st:=by
 refine qy (kp _) (qp Tryz.func74 rfl (Nat.le_of_ble_eq_true rfl) ?_)
 cases e with
 |no=>exact absurd rfl he
 |num n=>
  repeat' (first|(apply qlm;(iterate 3 exact rfl))|apply ql|apply qe|apply qf|apply qi|apply qg|(apply jq;exact rfl;exact rfl)|(apply vd;(iterate 3 exact rfl))|apply qt|(apply qk;exact Tryz.call134;exact q7w _ _))
  exact qn rfl (q9 rfl) ⟨rfl,_,rfl⟩
 |at' a n=>
  repeat' (first|(apply qlm;(iterate 3 exact rfl))|apply ql|apply qe|apply qf|apply qi|apply qg|(apply jq;exact rfl;exact rfl)|(apply vd;(iterate 3 exact rfl))|apply qt|(apply qk;exact Tryz.call134;exact q7v a n _))
  exact qn rfl (q9 rfl) ⟨rfl,_,rfl⟩
structure EdB (x:qu):Prop where
 keys:KeyB x.fields
 len:x.fields.length<9223372036854775808
 id1 : -9223372036854775808≤x.id
 id2:x.id≤9223372036854775807
@[reducible] def zj (b : List qu) : AV := .sl 3 (b.map j6) none
theorem qj5 (b:List qu) (st:List AObj) (e:ErrV) (h:eErr b=e) (hB:∀ x∈b,EdB x) (hl:b.length<9223372036854775808):qm E 71 [zj b] st fun r st'=>r=errA e∧st'=st:=by
 subst h
 refine ze [.a (zj b)] (kp _) Tryz.func71 rfl rfl (fun _=>rfl) rfl fun S0=>?_
 have hml:(b.map j6).length=b.length:=by simp
 have h1:b.length<1∨40<b.length→eErr b = .num 1:=fun h=>if_pos h
 have hr:¬ (b.length<1∨40<b.length)→eErr b=yr 0 b:=fun h=>if_neg h
 apply qd []
 repeat' (first|apply And.intro|(intro h;try exact cDd)|exact cSd|apply qa []|refine exr ?_|refine qh ?_)
 ·rw [h1 (by omega)];rfl
 ·rw [h1 (by omega)];rfl
 rw [hr (by omega)]
 refine zq (X:=Nat) (fun k=>⟨[(15,.a (zj b)),(16,.i (b.map j6).length),(17,.i k)],[],0⟩) (fun k=>k≤b.length∧yr k (b.drop k)=yr 0 b) (fun k=>b.length - k) 0 ⟨by omega,rfl⟩ ?_ ?_
 ·skip
  repeat' (first|apply And.intro|(intro h;try exact cDd)|exact cSd|apply qa []|refine exr ?_|refine qh ?_)
 ·rintro k ⟨hk,hc⟩
  by_cases hlt:k<b.length
  ·obtain⟨y,hy⟩:∃ y,b[k]? = some y:=⟨_,List.getElem?_eq_getElem hlt⟩
   have hget:=qil hy
   have hky:=hB y (List.mem_of_getElem? hy)
   obtain⟨_,hye⟩:=List.getElem?_eq_some_iff.1 hy
   rw [List.drop_eq_getElem_cons hlt,hye,yr] at hc
   have hc9:=fun st=>za2 y st _ rfl hky.keys hky.len
   have hcf:=fun st=>qoe k (gErr y) st
   rw [← hc]
   cases hg:gErr y
   all_goals rw [hg] at hc hc9 hcf
   ·apply qd [4]
    repeat' (first|apply And.intro|(intro h;try exact cDd)|(refine Exists.intro (k) ⟨by omega,_,hget,?_⟩)|exact⟨Tryz.call129⟩|refine cpe hc9 ?_|(refine Exists.intro (k+1) ⟨⟨by omega,(if_pos rfl).symm⟩,by omega,?_⟩)|exact cSd|apply qa [4]|refine exr ?_|refine qh ?_)
   all_goals have hgc:=fun h=>ql5 y |>.1 h
   all_goals rw [hg] at hgc
   all_goals rw [if_neg fun h=>nomatch hgc h]
   ·have hcg:=fun st=>hcf st fun h=>nomatch hgc h
    apply qd [4]
    repeat' (first|apply And.intro|(intro h;try exact cDd)|(refine Exists.intro (k) ⟨by omega,_,hget,?_⟩)|exact⟨Tryz.call129⟩|refine cpe hc9 ?_|exact⟨Tryz.call74⟩|refine cpe hcg ?_|exact cSd|apply qa [4]|refine exr ?_|refine qh ?_)
   ·have hcg:=fun st=>hcf st fun h=>nomatch hgc h
    apply qd [4]
    repeat' (first|apply And.intro|(intro h;try exact cDd)|(refine Exists.intro (k) ⟨by omega,_,hget,?_⟩)|exact⟨Tryz.call129⟩|refine cpe hc9 ?_|exact⟨Tryz.call74⟩|refine cpe hcg ?_|exact cSd|apply qa [4]|refine exr ?_|refine qh ?_)
  ·rw [List.drop_eq_nil_of_le (by omega),yr] at hc
   rw [← hc]
   apply qd []
   repeat' (first|apply And.intro|(intro h;try exact cDd)|exact cSd|apply qa []|refine exr ?_|refine qh ?_)
theorem q0o (a b:Int):Pure (.tu [Iv a,Iv b]):=kg (qq _) (qq _)
theorem qh0 (fs:List Fld) (st:List AObj) (hK:KeyB fs) (hl:fs.length<9223372036854775808):qm E 224 [zz fs] st fun r st'=>r = .tu [Iv (jl fs).pos,Iv (jl fs).code]∧st'=st:=by
 refine ze [.a (zz fs)] (q0o _ _) Tryz.func224 rfl rfl (fun _=>rfl) rfl fun S0=>?_
 have hml:(fs.map fldA).length=fs.length:=by simp
 apply qd []
 repeat' (first|apply And.intro|(intro h;try exact cDd)|exact cSd|apply qa []|refine exr ?_|refine qh ?_)
 ·rw [qs0 (by omega)];rfl
 ·rw [qp1 (by omega)];rfl
 rw [qs1 (by omega) (by omega)]
 refine zq (X:=Nat) (fun k=>⟨[(0,.a (zz fs)),(4,.i k)],[],0⟩) (fun k=>k≤fs.length∧ww k (fs.drop k)=ww 0 fs) (fun k=>fs.length - k) 0 ⟨by omega,rfl⟩ ?_ ?_
 ·skip
  repeat' (first|apply And.intro|(intro h;try exact cDd)|exact cSd|apply qa []|refine exr ?_|refine qh ?_)
 ·rintro k ⟨hk,hc⟩
  by_cases hlt:k<fs.length
  ·obtain⟨y,hy⟩:∃ y,fs[k]? = some y:=⟨_,List.getElem?_eq_getElem hlt⟩
   have hget:=qwe hy
   have hky:=hK y (List.mem_of_getElem? hy)
   obtain⟨_,hye⟩:=List.getElem?_eq_some_iff.1 hy
   rw [List.drop_eq_getElem_cons hlt,hye,ww] at hc
   have hc4:=fun st=>qxq y st hky
   rw [← hc]
   apply qd []
   repeat' (first|apply And.intro|(intro h;try exact cDd)|(refine Exists.intro (k) ⟨by omega,_,hget,?_⟩)|exact⟨Tryz.call259⟩|refine cpe hc4 ?_|(refine Exists.intro (k+1) ⟨⟨by omega,by simp_all⟩,by omega,?_⟩)|exact cSd|apply qa []|refine exr ?_|refine qh ?_)
   all_goals (rw [if_neg (by assumption)];rfl)
  ·rw [List.drop_eq_nil_of_le (by omega),ww] at hc
   rw [← hc]
   apply qd []
   repeat' (first|apply And.intro|(intro h;try exact cDd)|exact cSd|apply qa []|refine exr ?_|refine qh ?_)
theorem qzj (x:qu) (st:List AObj) (hK:EdB x):qm E 182 [j6 x] st fun r st'=>r=Iv (gErr x).code∧st'=st:=by
 refine ze [.a (j6 x)] (qq _) Tryz.func182 rfl rfl (fun _=>rfl) rfl fun S0=>?_
 have hml:(x.fields.map fldA).length=x.fields.length:=by simp
 have hpos:x.fields=[]↔x.fields.length=0:=by simp
 have hc6:=fun st=>qh0 x.fields st hK.keys hK.len
 have hg:(gErr x).code=if x.kind=2 then (if x.fields.length=0 then 0 else 2) else if x.kind=1∨x.kind=3 then (jl x.fields).code else 2:=by
  unfold gErr
  simp only [apply_ite ErrV.code,hpos]
  rfl
 rw [hg]
 generalize (jl x.fields).code=c at *
 apply qd [1]
 repeat' (first|apply And.intro|(intro h;try exact cDd)|exact⟨Tryz.call224⟩|refine cpe hc6 ?_|exact cSd|apply qa [1]|refine exr ?_|refine qh ?_)
 all_goals clear hc6
 all_goals refine congrArg Iv ?_
 all_goals omega
theorem qxr (b:List qu) (st:List AObj) (hB:∀ x∈b,EdB x) (hl:b.length<9223372036854775808):qm E 124 [zj b] st fun r st'=>r = .tu [Iv (eErr b).pos,Iv (eErr b).code]∧st'=st:=by
 refine ze [.a (zj b)] (q0o _ _) Tryz.func124 rfl rfl (fun _=>rfl) rfl fun S0=>?_
 have hml:(b.map j6).length=b.length:=by simp
 have h1:b.length<1∨40<b.length→eErr b = .num 1:=fun h=>if_pos h
 have hr:¬ (b.length<1∨40<b.length)→eErr b=yr 0 b:=fun h=>if_neg h
 apply qd []
 repeat' (first|apply And.intro|(intro h;try exact cDd)|exact cSd|apply qa []|refine exr ?_|refine qh ?_)
 ·rw [h1 (by omega)];rfl
 ·rw [h1 (by omega)];rfl
 rw [hr (by omega)]
 refine zq (X:=Nat) (fun k=>⟨[(0,.a (zj b)),(4,.i k)],[],0⟩) (fun k=>k≤b.length∧yr k (b.drop k)=yr 0 b) (fun k=>b.length - k) 0 ⟨by omega,rfl⟩ ?_ ?_
 ·skip
  repeat' (first|apply And.intro|(intro h;try exact cDd)|exact cSd|apply qa []|refine exr ?_|refine qh ?_)
 ·rintro k ⟨hk,hc⟩
  by_cases hlt:k<b.length
  ·obtain⟨y,hy⟩:∃ y,b[k]? = some y:=⟨_,List.getElem?_eq_getElem hlt⟩
   have hget:=qil hy
   have hky:=hB y (List.mem_of_getElem? hy)
   obtain⟨_,hye⟩:=List.getElem?_eq_some_iff.1 hy
   rw [List.drop_eq_getElem_cons hlt,hye,yr] at hc
   have hc9:=fun st=>qzj y st hky
   rw [← hc]
   apply qd []
   repeat' (first|apply And.intro|(intro h;try exact cDd)|(refine Exists.intro (k) ⟨by omega,_,hget,?_⟩)|exact⟨Tryz.call182⟩|refine cpe hc9 ?_|(refine Exists.intro (k+1) ⟨⟨by omega,by simp_all⟩,by omega,?_⟩)|exact cSd|apply qa []|refine exr ?_|refine qh ?_)
   all_goals (rw [if_neg (by assumption)];rfl)
  ·rw [List.drop_eq_nil_of_le (by omega),yr] at hc
   rw [← hc]
   apply qd []
   repeat' (first|apply And.intro|(intro h;try exact cDd)|exact cSd|apply qa []|refine exr ?_|refine qh ?_)
def okE:ErrV→Prop
 | .no=>True
 | .num n=>n≠0
 | .at' _ n=>n≠0
theorem qq0 (e:ErrV) (st:List AObj) (he:okE e):qm E 14 [errA e] st fun r st'=>r=Iv e.code∧st'=st:=by
 refine qy (qq _) (qp Tryz.func14 rfl (Nat.le_of_ble_eq_true rfl) ?_)
 cases e with
 |no=>
  repeat' (first|apply ql|apply qv|apply qe|apply qf|apply qi|apply qg)
  refine kh (fun (k:Unit) s=>StA [(0,.v .nilIface),(7,Iv 0)] (st++[]) [] s) (fun k=>0) () (jw ⟨rfl,rfl,trivial⟩) ?_
  rintro k _ ⟨t,rfl⟩
  repeat' (first|apply ql|apply qv|apply qe|apply qf|apply qi|apply qg|(apply qr;(iterate 3 exact rfl))|(apply qc;exact rfl;apply km;exact cAo)|(apply qc;exact rfl;apply cd_t;exact cRa)|(apply qdh;exact rfl;exact rfl)|apply qs|apply qt)
  exact qn rfl (q9 rfl) ⟨rfl,_,rfl⟩
 |num n=>
  have hk:n≠0:=he
  repeat' (first|apply ql|apply qv|apply qe|apply qf|apply qi|apply qg)
  refine kh (fun (k:Unit) s=>StA [(0,errA (.num n)),(7,Iv 0)] (st++[]) [] s) (fun k=>0) () (jw ⟨rfl,rfl,trivial⟩) ?_
  rintro k _ ⟨t,rfl⟩
  repeat' (first|apply ql|apply qv|apply qe|apply qf|apply qi|apply qg|(apply za;exact rfl;exact rfl)|(apply qr;(iterate 3 exact rfl))|(apply qx;(iterate 4 exact rfl))|(apply y3;exact cRa)|(apply qo;exact rfl;apply pk_t;exact cRa)|(apply qc;exact rfl;apply km;exact cAo)|(apply qc;exact rfl;apply cd_f;exact cRa)|(apply y8;exact rfl;exact rfl)|apply qs|apply qt|(apply qcs;(iterate 3 exact rfl)))
  exact qn rfl (q9 rfl) ⟨rfl,_,rfl⟩
 |at' a n=>
  have hk:n≠0:=he
  repeat' (first|apply ql|apply qv|apply qe|apply qf|apply qi|apply qg)
  refine kh (fun (j:Nat) s=>(j=0∧StA [(0,errA (.at' a n)),(7,Iv 0)] (st++[]) [] s)∨(j=1∧StA [(0,errA (.num n)),(7,Iv 1)] (st++[]) [] s)) (fun j=>1 - j) 0 (.inl ⟨rfl,jw ⟨rfl,rfl,trivial⟩⟩) ?_
  rintro j _ (⟨rfl,t,rfl⟩ | ⟨rfl,t,rfl⟩)
  ·skip
   repeat' (first|apply ql|apply qv|apply qe|apply qf|apply qi|apply qg|(apply za;exact rfl;exact rfl)|(apply qr;(iterate 3 exact rfl))|(apply z6;exact rfl)|(apply qx;(iterate 4 exact rfl))|(apply qaq;exact cRa)|(apply qe5;exact cRa)|(apply yf;exact cRa)|(apply qo;exact rfl;apply qfl;exact cRa)|(apply qo;exact rfl;apply pk_f;exact cRa)|(apply qc;exact rfl;apply km;exact cAo)|(apply qc;exact rfl;apply cd_f;exact cRa)|(apply zk;exact rfl;exact rfl;exact zb (by omega) (by omega))|(apply y8;exact rfl;exact rfl)|(apply xo;(iterate 4 exact rfl))|(apply zo;(iterate 3 exact rfl))|(apply v6;exact rfl;exact rfl)|(apply qaa;(iterate 3 exact rfl))|apply qs|(apply qia;(iterate 5 exact rfl))|(apply qcs;(iterate 3 exact rfl)))
   exact⟨1,.inr ⟨rfl,jw ⟨rfl,rfl,trivial⟩⟩,by omega⟩
  ·skip
   repeat' (first|apply ql|apply qv|apply qe|apply qf|apply qi|apply qg|(apply za;exact rfl;exact rfl)|(apply qr;(iterate 3 exact rfl))|(apply qx;(iterate 4 exact rfl))|(apply y3;exact cRa)|(apply qo;exact rfl;apply pk_t;exact cRa)|(apply qc;exact rfl;apply km;exact cAo)|(apply qc;exact rfl;apply cd_f;exact cRa)|(apply y8;exact rfl;exact rfl)|apply qs|apply qt|(apply qcs;(iterate 3 exact rfl)))
   exact qn rfl (q9 rfl) ⟨rfl,_,rfl⟩
theorem zd9 (e:ErrV) (w:Int) (st:List AObj) (he:okE e):qm E 38 [errA e,Iv w] st fun r st'=>r=Bv (decide (e.code=w))∧st'=st:=by
 refine qy (qq _) (qp Tryz.func38 rfl (Nat.le_of_ble_eq_true rfl) ?_)
 repeat' (first|apply ql|apply qe|apply qf|apply qi|apply qg|(apply qr;(iterate 3 exact rfl))|apply qt|(apply qk;exact Tryz.call14;exact qq0 _ _ he))
 exact qn rfl (q9 rfl) ⟨rfl,_,rfl⟩
theorem q9x (e:ErrV) (st:List AObj):qm E 15 [errA e] st fun r st'=>r=Iv e.pos∧st'=st:=by
 refine qy (qq _) (qp Tryz.func15 rfl (Nat.le_of_ble_eq_true rfl) ?_)
 cases e with
 |no=>
  repeat' (first|apply ql|apply qe|apply qf|apply qi|apply qg|(apply za;exact rfl;exact rfl)|(apply qx;(iterate 4 exact rfl))|(apply yf;exact cRa)|(apply qo;exact rfl;apply pk_f;exact cRa)|(apply qc;exact rfl;apply cd_f;exact cRa)|apply qs|apply qt|(apply qrs;(iterate 4 exact rfl)))
  exact qn rfl (q9 rfl) ⟨rfl,_,rfl⟩
 |num n=>
  repeat' (first|apply ql|apply qe|apply qf|apply qi|apply qg|(apply za;exact rfl;exact rfl)|(apply qx;(iterate 4 exact rfl))|(apply yf;exact cRa)|(apply qo;exact rfl;apply pk_f;exact cRa)|(apply qc;exact rfl;apply cd_f;exact cRa)|apply qs|apply qt|(apply qia;(iterate 5 exact rfl)))
  exact qn rfl (q9 rfl) ⟨rfl,_,rfl⟩
 |at' a n=>
  repeat' (first|apply ql|apply qe|apply qf|apply qi|apply qg|(apply za;exact rfl;exact rfl)|(apply qx;(iterate 4 exact rfl))|(apply y3;exact cRa)|(apply qo;exact rfl;apply pk_t;exact cRa)|(apply qc;exact rfl;apply qii;exact cRa)|(apply xo;(iterate 4 exact rfl))|(apply zo;(iterate 3 exact rfl))|(apply v6;exact rfl;exact rfl)|(apply qf6;(iterate 3 exact rfl))|apply qt|(apply qcs;(iterate 3 exact rfl)))
  exact qn rfl (q9 rfl) ⟨rfl,_,rfl⟩
def qfs (x:qu):qb:=qce x++[10]++qcx [32,32] (zx x.fields)
def encF (b:List qu):qb:=b.flatMap qfs
theorem q7y (a b:List qu):encF (a++b)=encF a++encF b:=by simp [encF]
theorem q7z (x:qu):encF [x]=qfs x:=by simp [encF]
theorem qp3:∀ (k:Nat) (r:List Fld),ww k r = .no↔∀ f∈r,vi f
 |k,[]=>by simp [ww]
 |k,f::r=>by
  unfold ww
  split
  ·rename_i h
   rw [qp3 (k+1) r]
   have:=(qb7 f).1 h
   simp [this]
  ·rename_i h
   have h2:¬ vi f:=fun g=>h ((qb7 f).2 g)
   simp [h2]
theorem qeh {fs:List Fld} (h:jl fs = .no):fs≠[]∧fs.length≤40∧∀ f∈fs,vi f:=by
 unfold jl at h
 split at h
 ·exact absurd h (by simp)
 ·split at h
  ·exact absurd h (by simp)
  ·exact⟨by assumption,by omega,(qp3 _ _).1 h⟩
theorem qjl {x:qu} (h:gErr x = .no):x.fields.length≤40∧∀ f∈x.fields,vi f:=by
 unfold gErr at h
 split at h
 ·split at h
  ·rename_i h0;rw [h0];simp
  ·exact absurd h (by simp)
 ·split at h
  ·exact (qeh h).2
  ·exact absurd h (by simp)
theorem qv4:∀ (k:Nat) (b:List qu),yr k b = .no↔∀ x∈b,gErr x = .no
 |k,[]=>by simp [yr]
 |k,x::b=>by
  unfold yr
  split
  ·rename_i h
   rw [qv4 (k+1) b]
   have:=(ql5 x).1 h
   simp [this]
  ·rename_i h
   have h2:¬ gErr x = .no:=fun g=>h ((ql5 x).2 g)
   simp [h2]
theorem qe1 {b:List qu} (h:eErr b = .no):1≤b.length∧b.length≤40∧∀ x∈b,gErr x = .no:=by
 unfold eErr at h
 split at h
 ·exact absurd h (by simp)
 ·exact⟨by omega,by omega,(qv4 _ _).1 h⟩
theorem qwi {fs:List Fld} (hl:fs.length≤40) (h:∀ f∈fs,vi f):quu fs:=⟨by omega,fun f hf=>by
 have:=h f hf
 have h1:=this.1.2.1
 have h2:=this.2
 omega⟩
theorem qqi (xs:List FldV) (st:List AObj) (hl:xs.length≤40) (h:∀ f∈xs,vi f):qm E 135 [zz xs] st fun r st'=>r = .tu [Sv (zx xs),.v .nilIface]∧st'=st:=by
 have:=zc1 xs st (qwi hl h)
 unfold qqg at this
 have h0:=(ql1 xs).2 h
 rw [if_pos h0,h0] at this
 exact this
theorem qnv (l:qb):(qcx [32,32] l).length≤3 * l.length:=by
 unfold qcx
 obtain⟨h1,h2⟩:=qfy _ l (Nat.le_refl _)
 have:=qon [32,32] (zl l)
 simp only [List.length_cons,List.length_nil] at this
 omega
theorem qtl (x:qu) (h1 : -9223372036854775808≤x.id) (h2:x.id≤9223372036854775807):(qce x).length≤100:=by
 have hn:=Lib.itoa_length_le x.id h1 h2
 unfold qce qen
 split
 ·split
  ·simp;omega
  ·split
   ·simp;omega
   ·split <;> simp <;> omega
 ·simp
theorem q1y {x:qu} (hB:EdB x) (h:gErr x = .no):(qfs x).length≤700000:=by
 obtain⟨hl,hg⟩:=qjl h
 have h1:=qfw x.fields hg
 have h2:=qnv (zx x.fields)
 have h3:=qtl x hB.id1 hB.id2
 unfold qfs
 simp only [List.length_append,List.length_cons,List.length_nil]
 omega
theorem qof:∀ (b:List qu),(∀ x∈b,EdB x)→(∀ x∈b,gErr x = .no)→(encF b).length≤700000 * b.length
 | [],_,_=>by simp [encF]
 |x::r,hB,h=>by
  have ih:=qof r (fun y hy=>hB y (by simp [hy])) (fun y hy=>h y (by simp [hy]))
  have h1:=q1y (hB x (by simp)) (h x (by simp))
  have e:encF (x::r)=qfs x++encF r:=by simp [encF]
  rw [e,List.length_append,List.length_cons]
  omega
set_option maxHeartbeats 2000000 in
theorem qtb (b:List qu) (st:List AObj) (hB:∀ x∈b,EdB x) (he:eErr b = .no):qm E 75 [zj b] st fun r st'=>r = .tu [Sv (encF b),.v .nilIface]∧st'=st:=by
 refine qy (kg (qq _) (qq _)) (qp Tryz.func75 rfl (Nat.le_of_ble_eq_true rfl) ?_)
 have hml:(b.map j6).length=b.length:=by simp
 obtain⟨hb1,hb40,hg⟩:=qe1 he
 have hel:=qof b hB hg
 repeat' (first|(apply qfd;exact rfl)|apply ql|apply qv|apply qe|apply qf|apply qi|apply qg|(apply qc;exact rfl;apply cd_f;exact cRa)|(apply zr;(iterate 4 exact rfl))|(apply vb;exact rfl;exact rfl)|apply qs|(apply qk;exact Tryz.call71;exact qj5 _ _ _ he hB (by omega)))
 refine xu b (fun pre s=>∃ q,(q = .v (.pointer none)∨q = .bx (st.length+0) 0 0)∧StE [(5,.bx (st.length+0) 0 0),(15,zj b),(16,Iv b.length),(17,Iv pre.length)] st [bldO 0 q (encF pre) (st.length+1),.tip (encF pre).length 1 5] s) ⟨_,.inl rfl,qbg ⟨rfl,rfl,congrArg (fun n:Nat=>Iv (n:Int)) hml,rfl,trivial⟩ rfl⟩ ?_ ?_
 ·rintro _ ⟨q,hq,t,ext,rfl⟩
  repeat' (first|apply ql|apply qe|apply qf|apply qg|(apply qr;(iterate 3 exact rfl))|(apply qc;exact rfl;apply vo;exact cAo)|apply jh|apply qt|(refine qk Tryz.call139 (qfe st _ _ _ _ 0 1 0 _ _ rfl rfl rfl) ?_))
  exact qn rfl (wc rfl) ⟨rfl,wx _ _ _ _⟩
 ·rintro pre x rest _ hr ⟨q,hq,t,ext,rfl⟩
  have hlen:b.length=pre.length+(rest.length+1):=by rw [hr];simp
  have hget:(b.map j6)[pre.length]? = some (j6 x):=by rw [hr];simp
  have hxb:=hB x (by rw [hr];simp)
  have hxg:=hg x (by rw [hr];simp)
  obtain⟨hfl,hfg⟩:=qjl hxg
  have hpl:=qof pre (fun y hy=>hB y (by rw [hr];simp [hy])) (fun y hy=>hg y (by rw [hr];simp [hy]))
  have hll:=qtl x hxb.id1 hxb.id2
  have hfo:=qfw x.fields hfg
  have hin:=qnv (zx x.fields)
  repeat' (first|apply ql|apply qv|apply qe|apply qf|apply qi|apply qg|(apply za;exact rfl;exact rfl)|(apply qr;(iterate 3 exact rfl))|(apply qc;exact rfl;apply km;exact cAo)|(apply qc;exact rfl;apply cd_f;exact cRa)|(apply jt;exact rfl;exact rfl;exact cOs)|(apply vb;exact rfl;exact rfl)|(apply ja;exact rfl;exact rfl)|(apply zg;(iterate 3 exact rfl))|(apply zo;(iterate 3 exact rfl))|(apply jc;(iterate 5 exact rfl))|(apply zp;(iterate 11 exact rfl))|(apply j7;(iterate 9 exact rfl))|apply qs|(apply qk;exact Tryz.call135;exact qqi _ _ hfl hfg)|(apply qk;exact Tryz.call137;exact zdb _ _ hxb.id1 hxb.id2)|(apply qk;exact Tryz.call138;exact q8a _ _ _ (by omega) (by decide))|(apply zw (n:=pre.length);(iterate 5 exact rfl);exact hget))
  refine qk Tryz.call136 (qgk st _ _ _ _ 0 1 0 _ _ _ rfl rfl ?_ ?_ rfl) ?_;(exact hq);(simp only [List.length_append,List.length_cons,List.length_nil];omega)
  repeat' (first|apply qe|apply qf|apply qi|(apply zk;exact rfl;exact rfl;exact zb (by omega) (by omega)))
  refine⟨_,.inr rfl,xf ⟨rfl,rfl,rfl,?_,trivial⟩ ?_⟩
  ·rw [xl pre x];rfl
  ·have e:encF (pre++[x])=encF pre++((qce x++[10])++qcx [32,32] (zx x.fields)):=by rw [q7y,q7z];rfl
   rw [e];rfl
theorem qim (b:List qu) (st:List AObj) (e:ErrV) (hB:∀ x∈b,EdB x) (hl:b.length<9223372036854775808) (he:eErr b=e) (h0:e.code≠0):qm E 75 [zj b] st fun r st'=>r = .tu [Sv [],errA e]∧st'=st:=by
 refine qy (kg (qq _) (kp _)) (qp Tryz.func75 rfl (Nat.le_of_ble_eq_true rfl) ?_)
 cases e with
 |no=>exact absurd rfl h0
 |num n=>
  repeat' (first|apply ql|apply qe|apply qf|apply qi|apply qg|(apply qc;exact rfl;apply cd_t;exact cRa)|(apply vz;exact rfl;exact rfl)|apply qt|(apply qk;exact Tryz.call71;exact qj5 _ _ _ he hB hl))
  exact qn rfl (wc rfl) ⟨rfl,_,rfl⟩
 |at' a n=>
  repeat' (first|apply ql|apply qe|apply qf|apply qi|apply qg|(apply qc;exact rfl;apply cd_t;exact cRa)|(apply vz;exact rfl;exact rfl)|apply qt|(apply qk;exact Tryz.call71;exact qj5 _ _ _ he hB hl))
  exact qn rfl (wc rfl) ⟨rfl,_,rfl⟩
end Go.Proofs.YtmoklbacdkmkaaaGreatDoor
namespace Go.Av
open Go Go.RowKit
theorem qo7 {b:Nat} {st l:List AObj} {sz:Nat} {T:TypeId} {xs:List AV} {c:AV} (h:TipO b st sz T xs c):TipO b (st++l) sz T xs c:=by
 rcases h with h|h
 ·exact .inl (qh5 h)
 ·exact .inr h
theorem q0u {b:Nat} {st st':List AObj} {sz:Nat} {T:TypeId} {xs:List AV} {c:AV} (hs:∀ (t m sz:Nat) (T:TypeId),st[t]? = some (AObj.tip m sz T)→st'[t]? = st[t]?) (h:TipO b st sz T xs c):TipO b st' sz T xs c:=by
 rcases h with (h | ⟨t,h1,h2,h3⟩)|h
 ·exact .inl (.inl h)
 ·exact .inl (.inr ⟨t,h1,(hs t _ _ _ h2).trans h2,h3⟩)
 ·exact .inr h
end Go.Av
namespace Go.Proofs.YtmoklbacdkmkaaaGreatDoor
open Go Go.Av Go.RowKit Go.Proofs Go.Pl
theorem qe7 {st l:List AObj}:st.length≤(st++l).length:=by simp
theorem qt6 {b o:Nat} {st:List AObj} {sz:Nat} {T:TypeId} {xs:List AV} {c:AV} {x:AObj} (h:TipO b st sz T xs c) (hn:qhx st[o]?):TipO b (st.set o x) sz T xs c:=
 q0u (fun t m sz T ht=>List.getElem?_set_ne (fun e=>by subst e;exact hn _ _ _ ht)) h
structure OutI (st:List AObj) (S:List AObj):Prop where
 low:∀ j,j<st.length→S[j]? = st[j]?
 len:st.length≤S.length
theorem OutI.pre {st S l:List AObj} (h:OutI st S):OutI st (S++l):=⟨fun j hj=>(List.getElem?_append_left (by have:=h.len;omega)).trans (h.low j hj),by have:=h.len;simp;omega⟩
theorem OutI.set {st S:List AObj} {o:Nat} {x:AObj} (h:OutI st S) (ho:st.length≤o):OutI st (S.set o x):=⟨fun j hj=>(qns (by omega)).trans (h.low j hj),by have:=h.len;simp;omega⟩
theorem OutI.fr {st S S':List AObj} {t:Nat} (h:OutI st S) (hf:Fr S S' t) (ht:st.length≤t):OutI st S':=⟨fun j hj=>(hf.same j (by omega) (by have:=h.len;omega)).trans (h.low j hj),Nat.le_trans h.len hf.len⟩
theorem OutI.ext {st S:List AObj} (h:OutI st S):∃ ext,S=st++ext:=qr7 h.low
theorem qbl {E:Env} {rd:Option Nat} {N:Nat} {ops:Array Oper} {K:AS→Prop} {s:AS} {rest:List Oper} {d:Option Tmp} {T:TypeId} {p:String} {af:Array Edge} {t e:TypeId} {len sz:Nat} {agg:Bool} {parts:Array (Nat×Operand)} {zs cs:List AV} {st:List AObj} (hst:s.st=st) (hu:E.P.underlying t=some (.slice e)) (ht:tyOf E.P e=some (sz,agg)) (hz:qew E.P e len=some zs)
  (hf:qbr (fun i=>some (i * sz,sz)) zs (vl N s parts)=some cs) (hsz:Nat.ble (len * sz) 16777216=true)
  (h:AOps E rd N ops rest K (AS.put ⟨s.t,st++[.cells 0 e cs],s.df⟩ d (.os st.length 0 0 len len))):AOps E rd N ops (⟨d,.buildSlice t len parts,T,p,af,none⟩::rest) K s:=
 w8 (loc:=[]) (by rw [hst];simp) hu ht hz hf hsz h
theorem qi4 (x:qu):qjw (j6 x):=fun y hy=>by
 simp only [AV.cells,List.mem_cons,List.not_mem_nil,or_false] at hy
 rcases hy with rfl|rfl|rfl
 ·exact qq _
 ·exact qq _
 ·exact qap _
theorem qfg (b:List qu):Pure (zj b):=qaf fun x hx=>by
 obtain⟨f,_,rfl⟩:=List.mem_map.1 hx
 exact qi4 f
theorem q8k {α β : Type} (g : α→β) (l:List α) (a : α):(l++[a]).map g=l.map g++[g a]:=by simp
def tryB (k:Int) (l:qb):Option Int:=if qen k <+: l then (match Lib.atoiAll (l.drop (qen k).length) with
 | .ok n=>some n
 | _=>none) else none
def begE (l:qb):Option (Int×Int):=match tryB 1 l with
 |some n=>some (1,n)
 |none=>match tryB 2 l with
  |some n=>some (2,n)
  |none=>match tryB 3 l with
   |some n=>some (3,n)
   |none=>none
def begA:Option (Int×Int)→AV
 |some (k,n)=>.tu [j6 ⟨k,n,[]⟩,Bv true]
 |none=>.tu [j6 ⟨0,0,[]⟩,Bv false]
theorem q3y (x:Option (Int×Int)):Pure (begA x):=by
 rcases x with _ | ⟨k,n⟩
 ·exact kg (qae (qi4 _)) (qq _)
 ·exact kg (qae (qi4 _)) (qq _)
theorem qt8 (k n:Int):Weak (.ag [Iv k,Iv n,zh]) (j6 ⟨k,n,[]⟩):=
 zcf rfl fun i x y hx hy=>by
  match i with
  | 0=>simp at hx hy;subst hx;subst hy;exact qa2 _
  | 1=>simp at hx hy;subst hx;subst hy;exact qa2 _
  | 2=>simp at hx hy;subst hx;subst hy;exact qev 2
  |i+3=>simp at hx
theorem q1q (l m:qb) (st:List AObj) (h:m <+: l):qm E 217 [Sv l,Sv m] st fun r st'=>r = .tu [Sv (l.drop m.length),Bv true]∧st'=st:=by
 have:=qdd l m st
 rw [qb3 h,(w6 l m).2 h] at this
 exact this
theorem q1r (l m d:qb) (st:List AObj) (h:m <+: l) (hd:l.drop m.length=d):qm E 217 [Sv l,Sv m] st fun r st'=>r = .tu [Sv d,Bv true]∧st'=st:=by
 subst hd
 exact q1q l m st h
theorem q1p (l m:qb) (st:List AObj) (h:¬ m <+: l):qm E 217 [Sv l,Sv m] st fun r st'=>r = .tu [Sv l,Bv false]∧st'=st:=by
 have:=qdd l m st
 have hf:Lib.hasPrefix l m=false:=by
  cases hb:Lib.hasPrefix l m with
  |false=>rfl
  |true=>exact absurd ((w6 l m).1 hb) h
 have ht:Lib.trimPrefix l m=l:=by
  unfold Lib.trimPrefix
  rw [if_neg (by simp [hf])]
 rw [ht,hf] at this
 exact this
theorem zal {l:qb} {k:Nat} {n:Int} (h1:1≤k) (h3:k≤3) (h:∀ j:Nat,1≤j→j<k→tryB j l=none) (hk:tryB k l=some n):begE l=some ((k:Int),n):=by
 have:k=1∨k=2∨k=3:=by omega
 rcases this with rfl|rfl|rfl
 ·have hk1:tryB 1 l=some n:=hk
  simp [begE,hk1]
 ·have e1:tryB 1 l=none:=h 1 (by omega) (by omega)
  have hk1:tryB 2 l=some n:=hk
  simp [begE,e1,hk1]
 ·have e1:tryB 1 l=none:=h 1 (by omega) (by omega)
  have e2:tryB 2 l=none:=h 2 (by omega) (by omega)
  have hk1:tryB 3 l=some n:=hk
  simp [begE,e1,e2,hk1]
theorem q3z {l:qb} (h:∀ j:Nat,1≤j→j<4→tryB j l=none):begE l=none:=by
 have e1:tryB 1 l=none:=h 1 (by omega) (by omega)
 have e2:tryB 2 l=none:=h 2 (by omega) (by omega)
 have e3:tryB 3 l=none:=h 3 (by omega) (by omega)
 simp [begE,e1,e2,e3]
theorem q6t {k:Nat} (h1:1≤k) (h3:k≤3):qa4 (k:Int)≠[]∧([32]++qa4 (k:Int))++[32]=qen (k:Int)∧(qa4 (k:Int)).length≤10:=by
 have:k=1∨k=2∨k=3:=by omega
 rcases this with rfl|rfl|rfl <;> decide
set_option maxHeartbeats 2000000 in
theorem zan (l:qb) (st:List AObj) (hl:l.length<1000000):qm E 176 [Sv l] st fun r st'=>r=begA (begE l)∧st'=st:=by
 refine qy (q3y _) (qp Tryz.func176 rfl (Nat.le_of_ble_eq_true rfl) ?_)
 repeat' (first|apply ql|apply qv|apply qe|apply qf|apply qg|(apply ja;exact rfl;exact rfl))
 refine kh (fun (k:Nat) s=>1≤k∧k≤4∧(∀ j:Nat,1≤j→j<k→tryB j l=none)∧StE [(0,Sv l),(2,.bx (st.length+0) 0 0),(4,Iv k)] st [.cells 0 97 [Iv 0,Iv 0,zh]] s) (fun k=>4 - k) 1 ⟨by omega,by omega,fun j h1 h2=>by omega,qbg ⟨rfl,rfl,rfl,trivial⟩ rfl⟩ ?_
 rintro k _ ⟨hk1,hk4,hno,t,ext,rfl⟩
 by_cases h4:k=4
 ·subst h4
  have hw:qa4 ((4:Nat):Int)=[]:=by decide
  rw [q3z hno]
  repeat' (first|apply ql|apply qe|apply qf|apply qi|apply qg|(apply jo;(iterate 3 exact rfl))|(apply qc;exact rfl;apply cd_f;exact cRa)|(apply yx;(iterate 11 exact rfl))|(apply vd;(iterate 3 exact rfl))|apply jh|apply qt|(apply qk;exact Tryz.call191;exact qrq _ _))
  refine qn rfl (wb (qdb rfl rfl rfl rfl rfl rfl) (qds (qt8 0 0) (qa2 _))) ⟨rfl,wx _ _ _ _⟩
 ·obtain⟨hw,hm,hwl⟩:=q6t hk1 (by omega)
  by_cases hp:qen (k:Int) <+: l
  ·have hp':([32]++qa4 (k:Int))++[32] <+: l:=by rw [hm];exact hp
   obtain⟨d,hd0⟩:∃ d,d=l.drop (qen (k:Int)).length:=⟨_,rfl⟩
   have hd:l.drop ((([32]:qb)++qa4 (k:Int))++[32]).length=d:=by rw [hm,hd0]
   have hdl:d.length<1000000:=by rw [hd0,List.length_drop];omega
   repeat' (first|apply ql|apply qv|apply qe|apply qf|apply qi|apply qg|(apply za;exact rfl;exact rfl)|(apply jo;(iterate 3 exact rfl))|(apply qc;exact rfl;apply km;exact cAo)|(apply jt;exact rfl;exact rfl;exact cOs)|apply qs|(apply qk;exact Tryz.call191;exact qrq _ _)|(apply qk;exact Tryz.call217;exact q1r _ _ _ _ hp' hd))
   refine qdu Tryz.call97 ((qls d _ (by omega)).mono ?_)
   rintro _ _ ⟨rfl,n,x,rfl,hx⟩
   rw [hd0] at hx
   rcases x with _ | ⟨t',y⟩
   ·simp only at hx
    have htr:tryB (k:Int) l=some n:=by unfold tryB;rw [if_pos hp,hx]
    rw [zal hk1 (by omega) hno htr]
    repeat' (first|apply ql|apply qe|apply qf|apply qi|apply qg|(apply za;exact rfl;exact rfl)|(apply qx;(iterate 4 exact rfl))|(apply y3;exact cRa)|(apply qo;exact rfl;apply pk_t;exact cRa)|(apply qc;exact rfl;apply cd_t;exact cRa)|(apply qdh;exact rfl;exact rfl)|(apply yx;(iterate 11 exact rfl))|(apply vd;(iterate 3 exact rfl))|apply qt)
    refine qn rfl (wb (qdb rfl rfl rfl rfl rfl rfl) (qds (qt8 k n) (qa2 _))) ⟨rfl,wx _ _ _ _⟩
   ·simp only at hx
    have htr:tryB (k:Int) l=none:=by
     unfold tryB
     rw [if_pos hp]
     split
     ·rename_i v hv;exact absurd hv (hx v)
     ·rfl
    repeat' (first|apply ql|apply qe|apply qf|apply qi|apply qg|(apply za;exact rfl;exact rfl)|(apply qx;(iterate 4 exact rfl))|(apply y3;exact cRa)|(apply qo;exact rfl;apply pk_t;exact cRa)|(apply qc;exact rfl;apply cd_f;exact cRa)|(apply zk;exact rfl;exact rfl;exact zb (by omega) (by omega))|(apply y8;exact rfl;exact rfl)|apply qs)
    refine⟨k+1,⟨by omega,by omega,fun j h1 h2=>?_,xf ⟨rfl,rfl,rfl,trivial⟩ rfl⟩,by omega⟩
    by_cases hjk:j=k
    ·subst hjk;exact htr
    ·exact hno j h1 (by omega)
  ·have hp':¬ ([32]++qa4 (k:Int))++[32] <+: l:=by rw [hm];exact hp
   have htr:tryB (k:Int) l=none:=by unfold tryB;rw [if_neg hp]
   repeat' (first|apply ql|apply qv|apply qe|apply qf|apply qi|apply qg|(apply za;exact rfl;exact rfl)|(apply jo;(iterate 3 exact rfl))|(apply qc;exact rfl;apply km;exact cAo)|(apply jt;exact rfl;exact rfl;exact cOs)|apply qs|(apply qk;exact Tryz.call191;exact qrq _ _)|(apply qk;exact Tryz.call217;exact q1p _ _ _ hp'))
   refine qdu Tryz.call97 ((qls l _ (by omega)).mono ?_)
   rintro _ _ ⟨rfl,n,x,rfl,hx⟩
   rcases x with _ | ⟨t',y⟩
   all_goals
    repeat' (first|apply ql|apply qe|apply qf|apply qi|apply qg|(apply za;exact rfl;exact rfl)|(apply qx;(iterate 4 exact rfl))|(apply yf;exact cRa)|(apply qo;exact rfl;apply pk_f;exact cRa)|(apply qc;exact rfl;apply cd_f;exact cRa)|(apply zk;exact rfl;exact rfl;exact zb (by omega) (by omega))|apply qs)
    refine⟨k+1,⟨by omega,by omega,fun j h1 h2=>?_,xf ⟨rfl,rfl,rfl,trivial⟩ rfl⟩,by omega⟩
    by_cases hjk:j=k
    ·subst hjk;exact htr
    ·exact hno j h1 (by omega)
def recsF (its:List zm):List (List Fld):=(its.filter fun x=>decide (x.kind=3)).map zm.fields
@[reducible] def q95 (ls : List (List Fld)) : AV := .sl 1 (ls.map zz) none
theorem q23 (ls:List (List Fld)):Pure (q95 ls):=qaf fun x hx=>by
 obtain⟨f,_,rfl⟩:=List.mem_map.1 hx
 intro y hy
 simp only [AV.cells,List.mem_cons,List.not_mem_nil,or_false] at hy
 subst hy
 exact qap _
theorem qzg (l:List zm) (x:zm) (h:x.kind=3):recsF (l++[x])=recsF l++[x.fields]:=by simp [recsF,h]
theorem qzh (l:List zm) (x:zm) (h:¬ x.kind=3):recsF (l++[x])=recsF l:=by simp [recsF,h]
theorem zcd {b t1:Nat} {st st':List AObj} {sz:Nat} {T:TypeId} {xs:List AV} {c c0:AV} {sz0:Nat} {xs0:List AV} (hf:Fr st st' t1) (hid:c0 = .sl sz0 xs0 (some t1)∨st.length≤t1) (h0:∀ t,c0≠.sl sz0 xs0 (some t)) (h:TipO b st sz T xs c):TipO b st' sz T xs c:=
 q0u (fun t m sz T ht=>hf.same t (fun e=>by
  subst e
  rcases hid with hid|hid
  ·exact h0 _ hid
  ·have:=lt_of_getElem? ht;omega) (lt_of_getElem? ht)) h
theorem q9s {b t1:Nat} {st st':List AObj} {sz:Nat} {T:TypeId} {xs:List AV} {c:AV} {sz0:Nat} {xs0:List AV} {o v f l k:Nat} (hf:Fr st st' t1) (hid:AV.os o v f l k = .sl sz0 xs0 (some t1)∨st.length≤t1) (h:TipO b st sz T xs c):TipO b st' sz T xs c:=
 zcd hf hid (by simp) h
set_option maxHeartbeats 2000000 in
theorem q6b (its:List zm) (st:List AObj) (hl:its.length<1000000) (hf:∀ x∈its,x.fields.length<1000000):qm E 222 [ji its] st fun r st'=>r=q95 (recsF its)∧st'=st:=by
 refine qy (q23 _) (qp Tryz.func222 rfl (Nat.le_of_ble_eq_true rfl) ?_)
 have hml:(its.map z0).length=its.length:=by simp
 rw [List.append_nil]
 repeat' (first|apply ql|apply qv|apply qe|apply qf|apply qi|apply qg|(apply zr;(iterate 4 exact rfl)))
 refine xu its (fun pre s=>∃ c S,OutI st S∧TipO st.length S 1 95 ((recsF pre).map zz) c∧StA [(3,c),(6,ji its),(7,Iv its.length),(8,Iv pre.length)] S [] s) ⟨_,st,⟨fun _ _=>rfl,Nat.le_refl _⟩,qya ..,jw ⟨rfl,rfl,congrArg (fun n:Nat=>Iv (n:Int)) hml,rfl,trivial⟩⟩ ?_ ?_
 ·rintro _ ⟨c,S,hO,hT,t,rfl⟩
  repeat' (first|apply ql|apply qe|apply qf|apply qi|apply qg|(apply qr;(iterate 3 exact rfl))|(apply qc;exact rfl;apply vo;exact cAo)|apply jh|apply qt)
  exact qn rfl (wb (q9 rfl) (qkz hT)) ⟨rfl,hO.ext⟩
 ·rintro pre x rest _ hr ⟨c,S,hO,hT,t,rfl⟩
  have hlen:its.length=pre.length+(rest.length+1):=by rw [hr];simp
  have hget:(its.map z0)[pre.length]? = some (z0 x):=by rw [hr];simp
  have hxf:=hf x (by rw [hr];simp)
  have hpl:(recsF pre).length≤pre.length:=by unfold recsF;rw [List.length_map];exact List.length_filter_le _ _
  have hSl:=hO.len
  have hO1:OutI st ((S++[AObj.cells 0 137 [Iv 0,Sv [],zh]]).set S.length (.cells 0 137 (z0 x).cells)):=hO.pre.set hSl
  have hT1:TipO st.length ((S++[AObj.cells 0 137 [Iv 0,Sv [],zh]]).set S.length (.cells 0 137 (z0 x).cells)) 1 95 ((recsF pre).map zz) c:=qt6 (qo7 hT) (yg xd)
  have hob:((S++[AObj.cells 0 137 [Iv 0,Sv [],zh]]).set S.length (.cells 0 137 (z0 x).cells))[S.length]? = some (.cells 0 137 (z0 x).cells):=jy xd
  by_cases h3:x.kind=3
  ·skip
   repeat' (first|(apply qbl (st:=(S++[AObj.cells 0 137 [Iv 0,Sv [],zh]]).set S.length (.cells 0 137 (z0 x).cells));(iterate 6 exact rfl))|(apply q3n 19 rfl (qkz g1);apply j7;(iterate 9 exact rfl))|apply ql|apply qv|apply qe|apply qf|apply qi|apply qg|(apply qr;(iterate 3 exact rfl))|(apply qc;exact rfl;apply km;exact cAo)|(apply zk;exact rfl;exact rfl;exact zb (by omega) (by omega))|(apply zg;(iterate 3 exact rfl))|(apply zo;(iterate 3 exact rfl))|apply qs|(apply ka;exact rfl;exact hob;exact rfl;exact rfl)|(apply ka;exact rfl;exact qa6 hob;exact rfl;exact rfl)|(apply qi1 (st:=S);exact rfl;exact rfl)|(apply xq;exact rfl;exact rfl;(focus first|assumption|(repeat' (first|assumption|exact xd|exact jb rfl|apply jy|apply kf|omega|apply qa6)));(iterate 6 exact rfl))|(apply zw (n:=pre.length);(iterate 5 exact rfl);exact hget)|(apply qhb (b:=st.length) (xs:=[]) (ys:=x.fields.map fldA) (bytes:=32);(iterate 5 exact rfl);exact⟨⟨_,_,rfl,rfl,rfl,rfl,rfl⟩⟩;exact q0v _ _ _ _ _ _ _;(exact Nat.le_trans hO1.len qe7);(first|exact rfl|exact qbk fun _=>rfl);((simp [maxLen];omega));((simp;omega));intro c1 S1 t1 g1 g2 g3 g4)|(apply qhb (b:=st.length) (xs:=(recsF pre).map zz) (ys:=[zz x.fields]) (bytes:=24);(iterate 5 exact rfl);exact⟨⟨_,_,rfl,rfl,rfl,rfl,rfl⟩⟩;exact q9s g2 g4 (qo7 hT1);(exact (hO1.pre.fr g2 g3).len);(first|exact rfl|exact qbk fun _=>rfl);((simp [maxLen];omega));((simp;omega));intro c2 S2 t2 k1 k2 k3 k4))
   exact⟨c2,S2,(hO1.pre.fr g2 g3).fr k2 k3,by rw [qzg _ _ h3,q8k];exact k1,jw ⟨rfl,rfl,rfl,qd1 pre x,trivial⟩⟩
  ·skip
   repeat' (first|apply ql|apply qv|apply qe|apply qf|apply qi|(apply qr;(iterate 3 exact rfl))|(apply qc;exact rfl;apply km;exact cAo)|(apply qc;exact rfl;apply vo;exact cAo)|(apply zk;exact rfl;exact rfl;exact zb (by omega) (by omega))|(apply zg;(iterate 3 exact rfl))|(apply zo;(iterate 3 exact rfl))|apply qs|(apply ka;exact rfl;exact hob;exact rfl;exact rfl)|(apply qi1 (st:=S);exact rfl;exact rfl)|(apply xq;exact rfl;exact rfl;(focus first|assumption|(repeat' (first|assumption|exact xd|exact jb rfl|apply jy|apply kf|omega|apply qa6)));(iterate 6 exact rfl))|(apply zw (n:=pre.length);(iterate 5 exact rfl);exact hget))
   exact⟨c,_,hO1,by rw [qzh _ _ h3];exact hT1,jw ⟨rfl,rfl,rfl,qd1 pre x,trivial⟩⟩
end Go.Proofs.YtmoklbacdkmkaaaGreatDoor
