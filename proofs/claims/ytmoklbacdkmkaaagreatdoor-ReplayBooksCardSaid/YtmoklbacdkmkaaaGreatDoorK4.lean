/- Contracts and plain facts that the closing text leans on (part 4). No condition of their own beyond those that each states. -/
import Derived.Test.YtmoklbacdkmkaaaGreatDoorK3
import Derived.Lib.AppendZerosOnto
import Derived.Lib.Overlaps
set_option maxRecDepth 100000
set_option linter.unusedVariables false
set_option linter.unusedSimpArgs false
namespace Go.Proofs.YtmoklbacdkmkaaaGreatDoor
open Go Go.Av Go.RowKit Go.Proofs Go.Pl
theorem qxq (f:FldV) (st:List AObj) (hl:f.1.length<4294967281):qm E 259 [fldA f] st fun r st'=>r=Iv (kc f)∧st'=st:=by
 refine qy (qq _) (qp Tryz.func259 rfl (Nat.le_of_ble_eq_true rfl) ?_)
 repeat' (first|apply ql|apply qe|apply qf|apply qg|(apply qr;(iterate 3 exact rfl))|(apply z6;exact rfl)|(apply qc;exact rfl;apply cd_n <;> intro h)|(apply qc;exact rfl;apply cd_d <;> intro h)|(apply jp;(iterate 3 exact rfl))|(apply qa5;(iterate 4 exact rfl))|(apply zg;(iterate 3 exact rfl))|(apply jc;(iterate 5 exact rfl))|apply qs|apply qt|(apply qk;exact Tryz.call223;exact qxu _ _ hl))
 all_goals refine qn rfl (q9 rfl) ⟨congrArg Iv (?_:_=kc f),_,rfl⟩
 ·exact (if_pos (by simp_all):kc f=5).symm
 ·exact ((if_neg (by simp_all)).trans (if_pos (by omega)):kc f=6).symm
 ·exact ((if_neg (by simp_all)).trans (if_neg (by omega)):kc f=0).symm
theorem q8d {s:qb} (h:10∉s):qw s=1↔qdo s:=by
 unfold qw qdo
 rw [if_neg h]
 by_cases hb:∀ c∈s,vu c
 ·rw [if_pos hb]
  exact⟨fun _=>hb,fun _=>rfl⟩
 ·rw [if_neg hb]
  refine⟨fun h=>?_,fun h=>absurd h hb⟩
  exfalso
  revert h
  repeat' split
  all_goals decide
theorem q8y (l p:qb) (r:List qb) (st:List AObj) (hl:l.length<1000000) (h:q5 l=p::r):qm E 260 [Sv l] st fun x st'=>x = .sl 1 (Sv p::r.map fun x=>Sv x) none∧st'=st:=by
 have:=q21 l st hl
 rw [h] at this
 exact this
theorem qy7 {f:Fld} {p:qb} {r:List qb} (h:q5 f.2=p::r):kr f=kv f.1 p::r.map fun s=>[32]++wl s:=by
 unfold kr
 rw [h]
 rfl
set_option maxHeartbeats 2000000 in
theorem qzi (f:FldV) (st:List AObj) (hl:f.1.length<4294967281) (hv:f.2.length<1000000):qm E 225 [fldA f] st fun r st'=>r=Ss (kr f)∧st'=st:=by
 refine qy (qjq _) (qp Tryz.func225 rfl (Nat.le_of_ble_eq_true rfl) ?_)
 obtain⟨p,r,hp⟩:∃ p r,q5 f.2=p::r:=⟨_,_,qko f.2⟩
 have hpl:p.length≤f.2.length:=qdg f.2 p (by rw [hp];simp)
 have hrl:∀ x∈r,x.length≤f.2.length:=fun x hx=>qdg f.2 x (by rw [hp];simp [hx])
 have hr10:∀ x∈r,10∉x:=fun x hx=>qkq f.2 x (by rw [hp];simp [hx])
 have hrn:r.length≤f.2.length:=by have:=qba _ f.2 (Nat.le_refl _);rw [hp] at this;simpa using this
 have hlen:(Sv p::r.map fun x=>Sv x).length=r.length+1:=by simp
 repeat' (first|(apply w8;(iterate 6 exact rfl))|apply ql|apply qv|apply qe|apply qf|apply qi|apply qg|(apply jo;(iterate 3 exact rfl))|(apply qc;exact rfl;apply cd_d <;> intro h)|(apply jt;exact rfl;exact rfl;exact cOs)|(apply qa5;(iterate 4 exact rfl))|(apply zg;(iterate 3 exact rfl))|(apply zo;(iterate 3 exact rfl))|(apply jc;(iterate 5 exact rfl))|apply qs|(apply qk;exact Tryz.call260;exact q8y _ _ _ _ hv hp)|(apply zw (n:=0);(iterate 6 exact rfl)))
 all_goals refine qlt 5 (o:=st.length+1) (sz:=1) (len:=1) (cap:=1) (xs:=[Sv (kv f.1 p)]) (T':=9) rfl (jb rfl) rfl rfl (by omega) (Nat.le_refl _) (by decide) (by simp [AV.cells]) ?_ ?_
 ·exact congrArg (fun l:qb=>[Sv l]) (by unfold kv;rw [if_neg (by assumption)];simp:kv f.1 p=f.1++[58]++[32]++p)
 rotate_left
 ·exact congrArg (fun l:qb=>[Sv l]) (by unfold kv;rw [if_pos (Classical.not_not.1 (by assumption)),List.append_nil]:kv f.1 p=f.1++[58])
 all_goals
  rw [qy7 hp]
  refine xu r (fun pre s=>StE [(3,.sl 1 (Sv p::r.map fun x=>Sv x) none),(5,.sl 1 (Sv (kv f.1 p)::pre.map (fun s=>Sv ([32]++wl s))) (some (st.length+1))),(6,Iv (pre.length+1))] st [.cells 0 156 [Sv f.1,Sv f.2],.tip (pre.length+1) 1 9] s) (qbg ⟨rfl,rfl,rfl,trivial⟩ (wp st _ 1 _)) ?_ ?_
  ·rintro _ ⟨t,ext,rfl⟩
   repeat' (first|apply ql|apply qe|apply qf|apply qi|apply qg|(apply qr;(iterate 3 exact rfl))|(apply qc;exact rfl;apply vo;exact cAo)|(apply zr;(iterate 4 exact rfl))|apply jh|apply qt)
   refine qn rfl (q1c rfl rfl (qg2 _ _ _)) ⟨?_,wx _ _ _ _⟩
   simp only [Ss,List.map_cons,List.map_map]
   rfl
  ·rintro pre a rest _ hr ⟨t,ext,rfl⟩
   have hrlen:r.length=pre.length+(rest.length+1):=by rw [hr];simp
   have hget:(Sv p::r.map fun x=>Sv x)[pre.length+1]? = some (Sv a):=by rw [hr];simp
   have ha:a.length≤f.2.length:=hrl a (by rw [hr];simp)
   have ha10:10∉a:=hr10 a (by rw [hr];simp)
   have hk:=q8d ha10
   have hsa:=qmn a
   by_cases hb:qw a=1
   ·have hs:wl a=46::a:=if_pos (.inl (hk.1 hb))
    repeat' (first|apply ql|apply qv|apply qe|apply qf|apply qi|apply qg|(apply qr;(iterate 3 exact rfl))|(apply qx;(iterate 4 exact rfl))|(apply ye;exact cAo)|(apply qo;exact rfl;apply y6;exact cAo)|(apply qc;exact rfl;apply km;exact cAo)|(apply qc;exact rfl;apply cd_t;exact cRa)|(apply zr;(iterate 4 exact rfl))|(apply jt;exact rfl;exact rfl;exact cOs)|(apply zk;exact rfl;exact rfl;exact zb (by omega) (by omega))|(apply zo;(iterate 3 exact rfl))|(apply j7;(iterate 9 exact rfl))|apply qs|(apply qk;exact Tryz.call108;exact qf2 _ _ (by omega))|(apply zw (n:=pre.length+1);(iterate 5 exact rfl);exact hget)|(apply yi (n:=pre.length+1) (m:=1) (sz:=1) (bytes:=16);(iterate 4 exact rfl);simp;exact rfl;exact rfl;exact⟨⟨_,_,rfl,rfl,rfl,rfl,rfl⟩⟩;exact rfl;exact rfl;(unfold maxLen;omega);omega;exact rfl))
    refine xf ⟨rfl,?_,?_,trivial⟩ ?_
    ·exact qh3 _ (fun s=>Sv ([32]++wl s)) pre a _ (congrArg (fun l:qb=>Sv ([32]++l)) hs.symm:Sv ([32,46]++a)=_)
    ·exact qoq pre a
    ·rw [xl pre a];rfl
   ·have hne:a≠[]:=fun e=>hb (hk.2 (by subst e;intro c hc;simp at hc))
    have hpos:0<a.length:=List.length_pos_iff.2 hne
    have hh:a.head? = some (a.getD 0 0):=by cases a with|nil=>exact absurd rfl hne|cons x y=>rfl
    have hs:wl a=if a.getD 0 0=46 then 46::a else a:=by
     unfold wl
     have hnb:¬ qdo a:=fun h=>hb (hk.2 h)
     rw [hh]
     simp [hnb]
    have h46:((a.getD 0 0).toNat:Int)=46↔a.getD 0 0=46:=u8i _ 46 (by omega)
    repeat' (first|apply ql|apply qv|apply qe|apply qf|apply qi|apply qg|(apply qr;(iterate 3 exact rfl))|(apply qx;(iterate 4 exact rfl))|(apply yn;exact cAo)|(apply qo;exact rfl;apply qay;exact cAo)|(apply qc;exact rfl;apply km;exact cAo)|(apply qc;exact rfl;apply cd_d <;> intro h)|(apply zr;(iterate 4 exact rfl))|(apply jt;exact rfl;exact rfl;exact cOs)|(apply zk;exact rfl;exact rfl;exact zb (by omega) (by omega))|(apply zo;(iterate 3 exact rfl))|(apply ym;(iterate 3 exact rfl);exact cAs)|(apply j7;(iterate 9 exact rfl))|apply qs|(apply qk;exact Tryz.call108;exact qf2 _ _ (by omega))|(apply zw (n:=pre.length+1);(iterate 5 exact rfl);exact hget)|(apply yi (n:=pre.length+1) (m:=1) (sz:=1) (bytes:=16);(iterate 4 exact rfl);simp;exact rfl;exact rfl;exact⟨⟨_,_,rfl,rfl,rfl,rfl,rfl⟩⟩;exact rfl;exact rfl;(unfold maxLen;omega);omega;exact rfl))
    ·have hq:((a.getD 0 0).toNat:Int)=46:=by assumption
     refine xf ⟨rfl,?_,?_,trivial⟩ ?_
     ·exact qh3 _ (fun s=>Sv ([32]++wl s)) pre a _ (congrArg (fun l:qb=>Sv ([32]++l)) (hs.trans (if_pos (h46.1 hq))).symm:Sv ([32,46]++a)=_)
     ·exact qoq pre a
     ·rw [xl pre a];rfl
    ·have hq:¬ ((a.getD 0 0).toNat:Int)=46:=by assumption
     refine xf ⟨rfl,?_,?_,trivial⟩ ?_
     ·exact qh3 _ (fun s=>Sv ([32]++wl s)) pre a _ (congrArg (fun l:qb=>Sv ([32]++l)) (hs.trans (if_neg (fun e=>hq (h46.2 e)))).symm:Sv ([32]++a)=_)
     ·exact qoq pre a
     ·rw [xl pre a];rfl
theorem qnz (f:Fld):(zi (kr f)).length≤f.1.length+3 * f.2.length+3:=by
 have h1:=qo3 (q5 f.2).tail
 have h2:=congrArg List.length (qkp _ f.2 (Nat.le_refl _))
 have h3:(kv f.1 ((q5 f.2).headD [])).length≤f.1.length+2+((q5 f.2).headD []).length:=by
  unfold kv
  split <;> simp <;> omega
 have e:kr f=[kv f.1 ((q5 f.2).headD [])]++(q5 f.2).tail.map fun s=>[32]++wl s:=rfl
 rw [e,xg,qeb]
 simp only [List.length_append,List.length_cons,List.length_nil] at h2 ⊢
 omega
theorem qqh:∀ (xs:List Fld),(∀ f∈xs,f.1.length<4294967281∧f.2.length<1000000)→(zx xs).length≤5000000000 * xs.length
 | [],_=>by simp [zx]
 |f::r,h=>by
  have ih:=qqh r fun x hx=>h x (by simp [hx])
  have h1:=qnz f
  have h2:=h f (by simp)
  have e:zx (f::r)=zi (kr f)++zx r:=by simp [zx]
  rw [e,List.length_append,List.length_cons]
  omega
set_option maxHeartbeats 2000000 in
theorem q5y (xs:List FldV) (st:List AObj) (hx:quu xs):qm E 184 [zz xs] st fun r st'=>r=Sv (zx xs)∧st'=st:=by
 refine qy (qq _) (qp Tryz.func184 rfl (Nat.le_of_ble_eq_true rfl) ?_)
 have hxl:=hx.len
 have hml:(xs.map fldA).length=xs.length:=by simp
 repeat' (first|apply ql|apply qv|apply qe|apply qf|apply qg)
 refine xu xs (fun pre s=>StE [(0,zz xs),(3,Sv (zx pre)),(4,Iv pre.length)] st [] s) (qbg ⟨rfl,rfl,rfl,trivial⟩ rfl) ?_ ?_
 ·rintro _ ⟨t,ext,rfl⟩
  repeat' (first|apply ql|apply qe|apply qf|apply qi|apply qg|(apply qr;(iterate 3 exact rfl))|(apply qc;exact rfl;apply vo;exact cAo)|(apply zr;(iterate 4 exact rfl))|apply jh|apply qt)
  exact qn rfl (q9 rfl) ⟨rfl,wx _ _ _ _⟩
 ·rintro pre f rest _ hr ⟨t,ext,rfl⟩
  have hlen:xs.length=pre.length+(rest.length+1):=by rw [hr];simp
  have hget:(xs.map fldA)[pre.length]? = some (fldA f):=by rw [hr];simp
  obtain⟨hf1,hf2⟩:=hx.val f (by rw [hr];simp)
  have hb1:=qqh pre fun g hg=>hx.val g (by rw [hr];simp [hg])
  have hb2:=qnz f
  repeat' (first|apply ql|apply qv|apply qe|apply qf|apply qi|(apply qr;(iterate 3 exact rfl))|(apply qc;exact rfl;apply km;exact cAo)|(apply zr;(iterate 4 exact rfl))|(apply zo;(iterate 3 exact rfl))|apply qs|(apply qk;exact Tryz.call225;exact qzi _ _ hf1 hf2)|(apply zw (n:=pre.length);(iterate 5 exact rfl);exact hget))
  refine xu (kr f) (fun lp s=>StE [(0,zz xs),(3,Sv (zx pre++zi lp)),(4,Iv pre.length),(17,Ss (kr f)),(18,Iv (kr f).length),(19,Iv lp.length)] st [] s) ?_ ?_ ?_
  ·refine xf ⟨rfl,?_,rfl,rfl,congrArg (fun n:Nat=>Iv (n:Int)) (List.length_map ..),rfl,trivial⟩ rfl
   exact (congrArg (fun l:qb=>Sv l) (by simp [zi]):Sv (zx pre)=Sv (zx pre++zi []))
  ·rintro _ ⟨t,ext,rfl⟩
   repeat' (first|apply ql|apply qe|apply qf|apply qi|apply qg|(apply qr;(iterate 3 exact rfl))|(apply qc;exact rfl;apply vo;exact cAo)|(apply zk;exact rfl;exact rfl;exact zb (by omega) (by omega))|apply jh)
   refine xf ⟨rfl,?_,?_,trivial⟩ rfl
   ·exact (congrArg (fun l:qb=>Sv l) (by rw [qtg,qth]):Sv (zx pre++zi (kr f))=Sv (zx (pre++[f])))
   ·exact qd1 pre f
  ·rintro lp a lr _ hlr ⟨t,ext,rfl⟩
   have hlen2:(kr f).length=lp.length+(lr.length+1):=by rw [hlr];simp
   have hget2:((kr f).map fun x=>Sv x)[lp.length]? = some (Sv a):=by rw [hlr];simp
   have hct:=qjc lp
   have hb3:(zi lp).length+(a.length+1)≤f.1.length+3 * f.2.length+3:=by
    rw [hlr,xg] at hb2
    have:a::lr=[a]++lr:=rfl
    rw [this,xg,qeb] at hb2
    simp only [List.length_append,List.length_cons,List.length_nil] at hb2
    omega
   repeat' (first|apply ql|apply qv|apply qe|apply qf|apply qi|apply qg|(apply qr;(iterate 3 exact rfl))|(apply qc;exact rfl;apply km;exact cAo)|(apply jt;exact rfl;exact rfl;exact cOs)|(apply zk;exact rfl;exact rfl;exact zb (by omega) (by omega))|(apply zo;(iterate 3 exact rfl))|apply qs|(apply zw (n:=lp.length);(iterate 5 exact rfl);exact hget2))
   refine xf ⟨rfl,?_,rfl,rfl,rfl,?_,trivial⟩ rfl
   ·exact (congrArg (fun l:qb=>Sv l) (by rw [xg,qeb];simp):Sv (((zx pre++zi lp)++a)++[10])=Sv (zx pre++zi (lp++[a])))
   ·exact qd1 lp a
end Go.Proofs.YtmoklbacdkmkaaaGreatDoor
namespace Go.Av
open Go Go.RowKit
@[reducible] def qq2 (K : Act → World → Prop) : Exit → Act → World → Prop
 | .normal,a,w=>K a w
 | _,_,_=>False
structure AZ (E:Env) (N:Nat) (ops:Array Oper) (fuel:Nat) (listed:Array Bool) (K:AS→Prop) (s:AS):Prop where
 run:∀ (B0:Nat) (w0:World) (G:Gh) (a:Act) (w:World),E.L B0 w0→Inv B0 w0 N G s a w→∀ K':Act→World→Prop,(∀ G' s' a' w',G.le G'→Inv B0 w0 N G' s' a' w'→K s'→K' a' w')→wpAnyIn (fw none) 0 E.P .any ops (qq2 K') fuel listed a w
structure AY (E:Env) (N:Nat) (o:Oper) (s:AS) (r:AV):Prop where
 run:∀ (B0:Nat) (w0:World) (G:Gh) (a:Act) (w:World),Inv B0 w0 N G s a w→∃ v,(∀ w',(execOp a.eval o).run E.P w' = .ok (.value v) w')∧(∀ w',o.about E.P w' a.eval=none)∧Rel G r v
section
variable {E : Env} {N : Nat} {ops : Array Oper} {K : AS → Prop} {s : AS} {fuel : Nat} {listed : Array Bool}
theorem qif {id:Nat} {Q:Exit→AS→Prop} {n:Nat} (hm:E.P.follows .mixedOrders=true) (hn:ops.size=n) (h:AZ E N ops n (Array.replicate n false) (Q .normal) s):AWp E none N (.region id ops true) Q s:=by
 subst hn
 refine⟨fun B0 w0 G a w hL hI=>?_⟩
 have hBl:Below w.heap.size w { w with drawn:=w.drawn+1 }:=⟨rfl,rfl,rfl,Nat.le_refl _,fun _ _=>rfl⟩
 have hI2:Inv B0 w0 N G s a { w with drawn:=w.drawn+1 }:=⟨hI.agree.fresh hBl,hI.defers,hI.size,hI.tmps⟩
 have:=h.run B0 w0 G a _ hL hI2 (fun a' w'=>∃ (G':Gh) (s':AS),G.le G'∧Inv B0 w0 N G' s' a' w'∧Q .normal s') fun G' s' a' w' hG hI' hk=>⟨G',s',hG,hI',hk⟩
 refine wpIn_mono (wpIn_region_any hm this) fun e a' w' hq=>?_
 cases e with
 |normal=>exact hq
 | _=>exact hq.elim
theorem qb5 (hr:Region.ready .any ops listed=[]) (h:K s):AZ E N ops fuel listed K s:=
 ⟨fun B0 w0 G a w hL hI K' hK=>wpAnyIn_done hr (hK G s a w (.refl G) hI h) fuel⟩
theorem xp (i:Nat) {oi:Oper} {r:AV} (hi:ops[i]? = some oi) (hs:Region.noSelect ops=true) (hf:Region.free .any ops listed i=true) (hr:(Region.ready .any ops listed).contains i=true) (hg:oi.guard=none) (hy:AY E N oi s r)
  (h:AZ E N ops fuel (listed.setIfInBounds i true) K (s.put oi.dst r)):AZ E N ops (fuel+1) listed K s:=by
 refine⟨fun B0 w0 G a w hL hI K' hK=>?_⟩
 obtain⟨v,h1,h2,h3⟩:=hy.run B0 w0 G a w hI
 have hwn:Region.wanted oi (yielded ops a.tmps)=true:=by simp [Region.wanted,hg]
 refine wpAnyIn_take (v:=v) rfl hi hs hf hr (fun c a w hq=>hq.elim) ⟨.inl ⟨hwn,h1⟩,h2⟩ (h.run B0 w0 G _ w hL (hI.put (.refl G) hI.agree oi.dst h3) K' fun G' s' a' w' hG hI' hk=>hK G' s' a' w' hG hI' hk)
theorem qy9 {F:Fence} {n:Nat} {P:Program} {o:Oper} {a:Act} {w:World} {next X Y:Act→World→Prop} (h:o.wpIn F n P a w next (qq2 X)):o.wpIn F n P a w next (qq2 Y):=by
 unfold Oper.wpIn at *
 refine⟨h.1,?_⟩
 have h:=h.2
 generalize (o.semAt F.round a.eval).run P w=r at *
 cases r with
 |ok x w'=>
  cases x <;> simp only [Oper.uponIn] at h ⊢
  case value u=>exact h
  case skip=>exact h
  case defer d=>exact h
  case enter f args=>
   refine⟨h.1,CallsIn.mono h.2 fun e w'' he=>?_⟩
   cases e with
   |returned u=>exact he
   |panicked c=>exact he.elim
   |outgrown=>exact absurd he (by simp [LetsOut])
  case row row args=>exact h
  case round l f tmps assign body=>
   refine⟨h.1,RoundIn.mono h.2 fun e w'' he=>?_⟩
   cases e with
   |returned u=>exact he
   |panicked c=>exact he.elim
   |outgrown=>exact absurd he (by simp [LetsOut])
 |halt x w'=>
  cases x <;> simp only [Oper.uponIn] at h ⊢
  case panic u=>exact h.elim
def qut (P:Nat→Prop):List Nat→Prop
 | []=>True
 |i::r=>P i∧qut P r
theorem qst {P:Nat→Prop}:∀ {l:List Nat},qut P l→∀ i∈l,P i
 | [],_,_,h=>by simp at h
 |j::l,h,i,hi=>by
  rcases List.mem_cons.1 hi with rfl|hi
  ·exact h.1
  ·exact qst h.2 i hi
theorem wd (rs:List Nat) (hr:Region.ready .any ops listed=rs) (hne:Nat.blt 0 rs.length=true)
  (h:qut (fun i=>∃ o,ops[i]? = some o∧AOps E none N ops [o] (AZ E N ops fuel (listed.setIfInBounds i true) K) s) rs):AZ E N ops (fuel+1) listed K s:=by
 refine⟨fun B0 w0 G a w hL hI K' hK=>wpAnyIn_all hr (fun e=>by subst e;simp at hne) fun i hi=>?_⟩
 obtain⟨o,ho,h⟩:=qst h i hi
 have hrun:=h.run B0 w0 G a w hL hI (qq2 fun a' w'=>wpAnyIn (fw none) 0 E.P .any ops (qq2 K') fuel (listed.setIfInBounds i true) a' w') fun G' s' a' w' hG hI' hk=>hk.run B0 w0 G' a' w' hL hI' K' fun G2 s2 a2 w2 hG2 hI2 hk2=>hK G2 s2 a2 w2 (hG.trans hG2) hI2 hk2
 unfold wpOpIn
 rw [ho]
 simp only [wpListIn] at hrun ⊢
 split
 ·rename_i hw
  rw [if_pos hw] at hrun
  exact qy9 hrun
 ·rename_i hw
  rw [if_neg hw] at hrun
  exact hrun
variable {d : Option Tmp} {T : TypeId} {p : String} {af : Array Edge}
theorem q9y {op:Op} {r:AV} (hnc:∀ c,op≠.call c) (h:∀ (G:Gh) (ρ : Operand→Value),(∀ x,Rel G (qj N s x) (ρ x))→∃ v,(∀ w',(execOp ρ ⟨d,op,T,p,af,none⟩).run E.P w' = .ok (.value v) w')∧Rel G r v):AY E N ⟨d,op,T,p,af,none⟩ s r:=
 ⟨fun B0 w0 G a w hI=>let ⟨v,h1,h2⟩:=h G a.eval hI.eval;⟨v,h1,fun w'=>by unfold Oper.about;cases op <;> first|rfl|exact absurd rfl (hnc _),h2⟩⟩
theorem yj {x:Operand}:AY E N ⟨d,.move x,T,p,af,none⟩ s (qj N s x):=q9y nofun fun G ρ hρ=>⟨ρ x,fun w'=>by simp [execOp],hρ x⟩
theorem qsx {x:Operand}:AY E N ⟨d,.assign x,T,p,af,none⟩ s (qj N s x):=q9y nofun fun G ρ hρ=>⟨ρ x,fun w'=>by simp [execOp],hρ x⟩
end
theorem qr0 {E:Env} {rd:Option Nat} {N:Nat} {c:Code} {Q:Exit→AS→Prop} {s:AS} (I:AS→Prop) (h:AWp E rd N c (only I) s) (hk:∀ s',I s'→Q .normal s'):AWp E rd N c Q s:=h.mono fun e s' h=>by
 cases e <;> first|exact hk _ h|exact h.elim
end Go.Av
namespace Go.Proofs.YtmoklbacdkmkaaaGreatDoor
open Go Go.Av Go.RowKit Go.Proofs Go.Pl
theorem qit {l:qb}:qw l=4↔10∉l∧58∈l∧yl (z4 l):=by
 unfold qw
 by_cases h10:10∈l
 ·simp [h10]
 ·rw [if_neg h10]
  constructor
  ·intro h
   split at h
   ·simp at h
   ·split at h
    ·simp at h
    ·split at h
     ·simp at h
     ·split at h
      ·rename_i hk;exact⟨h10,hk.1,hk.2⟩
      ·simp at h
  ·rintro⟨_,h58,hk⟩
   obtain⟨c,hc,hb,h35⟩:=qqr hk
   have hh:l.head? = some c:=by
    cases l with
    |nil=>simp at h58
    |cons a r=>
     unfold z4 at hc
     rw [List.takeWhile_cons] at hc
     split at hc
     ·simpa using hc
     ·simp at hc
   have hmem:c∈l:=List.mem_of_head? hh
   rw [if_neg (fun h'=>hb (h' c hmem)),if_neg (by rw [hh];simpa using h35),if_neg (fun ⟨d,hd,hd'⟩=>by rw [hh] at hd;cases hd;exact hb hd'),if_pos ⟨h58,hk⟩]
theorem quk {s:qb} (h:qw s=3):s≠[]:=fun e=>by subst e;revert h;decide
theorem q2c (l:qb) (st:List AObj) (hl:l.length<4294967281) (h:qw l=4):qm E 255 [Sv l] st fun r st'=>r = .tu [Sv (z4 l),Sv (js l),Bv true]∧st'=st:=by
 refine qy (qd5 _ _ _) (qp Tryz.func255 rfl (Nat.le_of_ble_eq_true rfl) ?_)
 have hc:Lib.cut l [58]=(z4 l,js l,true):=by rw [qs5,if_pos (qit.1 h).2.1]
 repeat' (first|apply ql|apply qe|apply qf|apply qi|apply qg|(apply za;exact rfl;exact rfl)|(apply qr;(iterate 3 exact rfl))|(apply qc;exact rfl;apply vo;exact cAo)|apply qs|apply qt|(apply qk;exact Tryz.call165;exact qhs _ _ hl)|(apply qk;exact Tryz.call96;exact qp5 _ _ _ hl))
 refine qn rfl (qbm rfl) ⟨qyb (?_:_=_),_,rfl⟩
 rw [hc]
theorem qy6 (l:qb) (st:List AObj) (hl:l.length<4294967281) (h:qw l≠4):qm E 255 [Sv l] st fun r st'=>r = .tu [Sv [],Sv [],Bv false]∧st'=st:=by
 refine qy (qd5 _ _ _) (qp Tryz.func255 rfl (Nat.le_of_ble_eq_true rfl) ?_)
 repeat' (first|apply ql|apply qe|apply qf|apply qi|apply qg|(apply qr;(iterate 3 exact rfl))|(apply qc;exact rfl;apply km;exact cAo)|apply qt|(apply qk;exact Tryz.call165;exact qhs _ _ hl))
 exact qn rfl (qbm rfl) ⟨rfl,_,rfl⟩
theorem qz0 {fn:Func} {s:AS} {t u:Tmp} {Ta:TypeId} {o1 v1 f1 sz1:Nat} {agg1:Bool} {T1:TypeId} {cs1:List AV} {r1:AV} (hr:fn.results = #[.cell t Ta,.tmp u]) (hx1:qj fn.ntmps s (.tmp t) = .bx o1 v1 f1) (ho1:s.st[o1]? = some (.cells v1 T1 cs1)) (ht1:tyOf E.P Ta=some (sz1,agg1)) (hl1:jk sz1 agg1 f1 cs1=some r1) :
  ARes E fn s (.tu [r1,qj fn.ntmps s (.tmp u)]):=by
 refine⟨fun B0 w0 G a w hL hI=>?_⟩
 obtain⟨b,v,h1,h2,h3⟩:=qfi hI hx1 ho1 ht1 hl1
 have hu:=hI.rd u
 refine⟨.tuple #[v,a.tmps.getD u undef],?_,qd7 h3 hu⟩
 simp only [Act.eval,Array.getD_eq_getD_getElem?] at h1
 simp [results,hr,h1,asAddr,h2]
def qec (ls:List qb):AV:=.tu [fldA (je ls).1,errN (je ls).2]
theorem qyc (ls:List qb):Pure (qec ls):=qca fun x hx=>by
 simp only [List.mem_cons,List.not_mem_nil,or_false] at hx
 rcases hx with rfl|rfl
 ·exact qjr fun x hx=>by
   simp only [List.mem_cons,List.not_mem_nil,or_false] at hx
   rcases hx with rfl|rfl <;> exact qq _
 ·exact qio _
theorem qdb {fn:Func} {s:AS} {t u:Tmp} {Ta:TypeId} {st loc ext new:List AObj} {k1 v1 f1 sz1:Nat} {agg1:Bool} {T1:TypeId} {cs1:List AV} {r1:AV} (hr:fn.results = #[.cell t Ta,.tmp u]) (hs:s.st=((st++loc)++ext)++new) (hx1:qj fn.ntmps s (.tmp t) = .bx (st.length+k1) v1 f1) (ho1:loc[k1]? = some (.cells v1 T1 cs1)) (ht1:tyOf E.P Ta=some (sz1,agg1)) (hl1:jk sz1 agg1 f1 cs1=some r1) :
  ARes E fn s (.tu [r1,qj fn.ntmps s (.tmp u)]):=qz0 hr hx1 (by rw [hs];exact yy ho1) ht1 hl1
theorem qnh {fn:Func} {s:AS} {t u:Tmp} {Ta:TypeId} {st loc:List AObj} {k1 v1 f1 sz1:Nat} {agg1:Bool} {T1:TypeId} {cs1:List AV} {r1:AV} (hr:fn.results = #[.cell t Ta,.tmp u]) (hs:s.st=st++loc) (hx1:qj fn.ntmps s (.tmp t) = .bx (st.length+k1) v1 f1) (ho1:loc[k1]? = some (.cells v1 T1 cs1)) (ht1:tyOf E.P Ta=some (sz1,agg1)) (hl1:jk sz1 agg1 f1 cs1=some r1) :
  ARes E fn s (.tu [r1,qj fn.ntmps s (.tmp u)]):=qz0 hr hx1 (by rw [hs];exact jb ho1) ht1 hl1
structure LsB (ls:List qb):Prop where
 len:ls.length<1000000
 val:∀ s∈ls,s.length<1000000
theorem qo2:∀ (r:List qb),(∀ s∈r,s.length<1000000)→(r.flatMap fun s=>[10]++ko 46 (s.drop 1)).length≤1000001 * r.length
 | [],_=>by simp
 |a::r,h=>by
  have ih:=qo2 r fun s hs=>h s (by simp [hs])
  have ha:=h a (by simp)
  have ht:(ko 46 (a.drop 1)).length≤a.length:=by unfold ko;split <;> simp <;> omega
  simp only [List.flatMap_cons,List.length_append,List.length_cons,List.length_nil]
  omega
theorem q4y (v:qb) (r:List qb):Lib.join (v::r.map fun s=>ko 46 (s.drop 1)) [10]=v++r.flatMap fun s=>[10]++ko 46 (s.drop 1):=by
 rw [Lib.join_cons]
 unfold Lib.joinTail
 rw [List.map_map,List.flatMap_def]
 rfl
theorem qr8 (xs:List qb) (tip:Option Nat) (sep v:qb) (st:List AObj) (h:Lib.join xs sep=v) (hN:xs.length≤140737488355328) (hl:v.length≤140737488355328):qm E 156 [.sl 1 (xs.map fun x=>Sv x) tip,Sv sep] st fun r st'=>r=Sv v∧st'=st:=by
 subst h
 exact q4x xs tip sep st hN hl
set_option maxHeartbeats 4000000 in
theorem ql4 (ls:List qb) (st:List AObj) (hB:LsB ls):qm E 216 [Ss ls] st fun r st'=>r=qec ls∧st'=st:=by
 refine qy (qyc _) (qp Tryz.func216 rfl (Nat.le_of_ble_eq_true rfl) ?_)
 have hL:=hB.len
 have hml:(ls.map fun x=>Sv x).length=ls.length:=by simp
 cases ls with
 |nil=>
  repeat' (first|apply ql|apply qe|apply qf|apply qi|apply qg|(apply qr;(iterate 3 exact rfl))|(apply qc;exact rfl;apply cd_t;exact cRa)|(apply zr;(iterate 4 exact rfl))|(apply jq;exact rfl;exact rfl)|(apply ja;exact rfl;exact rfl)|(apply zp;(iterate 11 exact rfl))|(apply vd;(iterate 3 exact rfl))|apply qt)
  exact qn rfl (qnh rfl rfl rfl rfl rfl rfl) ⟨rfl,_,rfl⟩
 |cons l r=>
  have hl:=hB.val l (by simp)
  by_cases h4:qw l=4
  ·have hk:=qit.1 h4
   have htr:(ko 32 (js l)).length≤l.length:=by unfold ko js;split <;> simp <;> omega
   simp only [List.length_cons] at hL
   repeat' (first|(apply w8;(iterate 6 exact rfl))|apply ql|apply qv|apply qe|apply qf|apply qi|apply qg|(apply za;exact rfl;exact rfl)|(apply qr;(iterate 3 exact rfl))|(apply z6;exact rfl)|(apply qc;exact rfl;apply qmt;exact cRa)|(apply qc;exact rfl;apply cd_f;exact cRa)|(apply zr;(iterate 4 exact rfl))|(apply ja;exact rfl;exact rfl)|(apply zo;(iterate 3 exact rfl))|(apply qex;(iterate 4 exact rfl);(first|assumption|omega|exact Nat.succ_le_succ (Nat.zero_le _)|(simp;omega));exact rfl)|apply qs|(apply qk;exact Tryz.call255;exact q2c _ _ (by omega) h4)|(apply qk;exact Tryz.call98;exact q0w _ _ _)|(apply zw (n:=0);(iterate 6 exact rfl)))
   refine qlt 7 (o:=st.length+1) (sz:=1) (len:=1) (cap:=1) (xs:=[Sv (ko 32 (js l))]) (T':=9) rfl (jb rfl) rfl rfl (by omega) (Nat.le_refl _) (by decide) (by simp [AV.cells]) rfl ?_
   have hrm:(r.map fun x=>Sv x).length=r.length:=by simp
   refine xu r (fun pre s=>(∀ x∈pre,qw x=3)∧StE [(2,.bx (st.length+0) 0 0),(4,Sv (z4 l)),(7,.sl 1 (Sv (ko 32 (js l))::pre.map (fun s=>Sv (ko 46 (s.drop 1)))) (some (st.length+1))),(33,.sl 1 (r.map fun x=>Sv x) none),(34,Iv r.length),(35,Iv pre.length)] st [.cells 0 156 [Sv [],Sv []],.tip (pre.length+1) 1 9] s) ⟨by simp,qbg ⟨rfl,rfl,rfl,rfl,congrArg (fun n:Nat=>Iv (n:Int)) hrm,rfl,trivial⟩ (wp st _ 1 _)⟩ ?_ ?_
   ·rintro _ ⟨h3,t,ext,rfl⟩
    have hok:qpa (l::r):=⟨by simp,h4,h3⟩
    have hjl:=qo2 r fun s hs=>hB.val s (by simp [hs])
    have hj:=q4y (ko 32 (js l)) r
    have hjv:Lib.join (ko 32 (js l)::r.map fun s=>ko 46 (s.drop 1)) [10]=qb4 l r:=hj
    have hvl:(qb4 l r).length≤140737488355328:=by
     unfold qb4
     rw [List.length_append]
     omega
    have hmm:(Sv (ko 32 (js l))::r.map fun s=>Sv (ko 46 (s.drop 1)))=(ko 32 (js l)::r.map fun s=>ko 46 (s.drop 1)).map fun x=>Sv x:=by simp [List.map_map]
    rw [hmm]
    have hkl:(z4 l).length<4294967281:=by have:=hk.2.2.2.1;omega
    have hun:je (l::r)=if 1000<(qb4 l r).length then (([],[]),6) else ((z4 l,qb4 l r),0):=if_pos hok
    by_cases hv:1000<(qb4 l r).length
    ·have hcf:kc (z4 l,qb4 l r)=6:=(if_neg (by simpa using hk.2.2)).trans (if_pos hv)
     repeat' (first|apply ql|apply qe|apply qf|apply qi|(apply qr;(iterate 3 exact rfl))|(apply qc;exact rfl;apply vo;exact cAo)|apply jh)
     refine qk Tryz.call156 (qr8 (ko 32 (js l)::r.map fun s:qb=>ko 46 (s.drop 1)) _ _ _ _ hjv ?_ hvl) ?_
     ·simp;omega
     repeat' (first|apply ql|apply qe|apply qf|apply qi|apply qg|(apply qc;exact rfl;apply cd_t;exact cRa)|(apply vz;exact rfl;exact rfl)|(apply ja;exact rfl;exact rfl)|(apply yx;(iterate 11 exact rfl))|(apply jc;(iterate 5 exact rfl))|(apply zp;(iterate 11 exact rfl))|(apply vd;(iterate 3 exact rfl))|apply qt|(apply qk;exact Tryz.call226;exact qhm (z4 l,qb4 l r) _ hkl (by rw [hcf];decide)))
     refine qn rfl (qdb rfl rfl rfl rfl rfl rfl) ⟨?_,wx _ _ _ _⟩
     unfold qec
     rw [hun,if_pos hv]
     exact congrArg (fun n:Int=>AV.tu [fldA ([],[]),.ifc 76 (Iv n)]) hcf
    ·have hcf:kc (z4 l,qb4 l r)=0:=(if_neg (by simpa using hk.2.2)).trans (if_neg hv)
     repeat' (first|apply ql|apply qe|apply qf|apply qi|apply qg|(apply qr;(iterate 3 exact rfl))|(apply qc;exact rfl;apply vo;exact cAo)|(apply qc;exact rfl;apply cd_f;exact cRa)|(apply vb;exact rfl;exact rfl)|(apply ja;exact rfl;exact rfl)|(apply yx;(iterate 11 exact rfl))|(apply jc;(iterate 5 exact rfl))|(apply zp;(iterate 11 exact rfl))|(apply vd;(iterate 3 exact rfl))|apply qs|apply jh|apply qt|(refine qk Tryz.call156 (qr8 (ko 32 (js l)::r.map fun s:qb=>ko 46 (s.drop 1)) _ _ _ _ hjv ?_ hvl) ?_;(simp;omega))|(apply qk;exact Tryz.call226;exact qhl (z4 l,qb4 l r) _ hkl hcf))
     refine qn rfl (qdb rfl rfl rfl rfl rfl rfl) ⟨?_,wx _ _ _ _⟩
     unfold qec
     rw [hun,if_neg hv]
     rfl
   ·rintro pre a rest _ hr ⟨h3,t,ext,rfl⟩
    have hrlen:r.length=pre.length+(rest.length+1):=by rw [hr];simp
    have hget:(r.map fun x=>Sv x)[pre.length]? = some (Sv a):=by rw [hr];simp
    have ha:=hB.val a (by rw [hr];simp)
    by_cases hka:qw a=3
    ·have hpos:1≤a.length:=List.length_pos_iff.2 (quk hka)
     repeat' (first|apply ql|apply qv|apply qe|apply qf|apply qi|apply qg|(apply qr;(iterate 3 exact rfl))|(apply qc;exact rfl;apply km;exact cAo)|(apply qc;exact rfl;apply vo;exact cAo)|(apply zk;exact rfl;exact rfl;exact zb (by omega) (by omega))|(apply zo;(iterate 3 exact rfl))|(apply qib;(iterate 3 exact rfl);exact cAs)|(apply j7;(iterate 9 exact rfl))|apply qs|(apply qk;exact Tryz.call165;exact qhs _ _ (by omega))|(apply qk;exact Tryz.call98;exact q0w _ _ _)|(apply zw (n:=pre.length);(iterate 5 exact rfl);exact hget)|(apply yi (n:=pre.length+1) (m:=1) (sz:=1) (bytes:=16);(iterate 4 exact rfl);simp;exact rfl;exact rfl;exact⟨⟨_,_,rfl,rfl,rfl,rfl,rfl⟩⟩;exact rfl;exact rfl;(unfold maxLen;omega);omega;exact rfl))
     refine⟨fun x hx=>?_,xf ⟨rfl,rfl,?_,rfl,rfl,?_,trivial⟩ ?_⟩
     ·rcases List.mem_append.1 hx with hx|hx
      ·exact h3 x hx
      ·simp at hx;subst hx;exact hka
     ·exact qh3 _ (fun s:qb=>Sv (ko 46 (s.drop 1))) pre a _ rfl
     ·exact qd1 pre a
     ·rw [xl pre a];rfl
    ·skip
     repeat' (first|apply ql|apply qv|apply qe|apply qf|apply qi|apply qg|(apply qr;(iterate 3 exact rfl))|(apply qc;exact rfl;apply km;exact cAo)|(apply jq;exact rfl;exact rfl)|(apply zo;(iterate 3 exact rfl))|(apply yx;(iterate 11 exact rfl))|(apply vd;(iterate 3 exact rfl))|apply qs|apply qt|(apply qk;exact Tryz.call165;exact qhs _ _ (by omega))|(apply zw (n:=pre.length);(iterate 5 exact rfl);exact hget))
     have hno:je (l::r)=(([],[]),2):=if_neg fun h=>hka (h.2.2 a (by rw [hr];simp))
     refine qn rfl (qdb rfl rfl rfl rfl rfl rfl) ⟨?_,wx _ _ _ _⟩
     unfold qec
     rw [hno]
     rfl
  ·have hno:je (l::r)=(([],[]),2):=if_neg fun h=>h4 h.2.1
   simp only [List.length_cons] at hL
   repeat' (first|apply ql|apply qe|apply qf|apply qi|apply qg|(apply za;exact rfl;exact rfl)|(apply qr;(iterate 3 exact rfl))|(apply z6;exact rfl)|(apply qc;exact rfl;apply qii;exact cRa)|(apply qc;exact rfl;apply cd_f;exact cRa)|(apply zr;(iterate 4 exact rfl))|(apply jq;exact rfl;exact rfl)|(apply ja;exact rfl;exact rfl)|(apply zo;(iterate 3 exact rfl))|(apply zp;(iterate 11 exact rfl))|(apply vd;(iterate 3 exact rfl))|apply qs|apply qt|(apply qk;exact Tryz.call255;exact qy6 _ _ (by omega) h4)|(apply zw (n:=0);(iterate 6 exact rfl)))
   refine qn rfl (qnh rfl rfl rfl rfl rfl rfl) ⟨?_,_,rfl⟩
   unfold qec
   rw [hno]
   rfl
theorem q5w (l:qb) (st:List AObj) (hl:l.length<4294967281) (h:qw l=4):qm E 179 [Sv l] st fun r st'=>r = .tu [Sv (z4 l),Sv (js l),Bv true]∧st'=st:=by
 have:=qxs l st hl
 have e:qdi l=(z4 l,js l,true):=if_pos (qit.1 h)
 rw [e] at this
 exact this
theorem qr9 {s:qb} (h:qw s=3):2≤s.length∧10∉s:=by
 have h10:10∉s:=fun h'=>by unfold qw at h;rw [if_pos h'] at h;simp at h
 refine⟨?_,h10⟩
 unfold qw at h
 rw [if_neg h10] at h
 split at h
 ·simp at h
 ·rename_i hb
  split at h
  ·simp at h
  ·split at h
   ·rename_i hbl
    obtain⟨c,hc,hcb⟩:=hbl
    match s,hc with
    | [a],hc=>
     simp at hc
     subst hc
     exact absurd (by simpa using hcb) hb
    |a::b::r,_=>simp
   ·split at h <;> simp at h
def qby (ls:List qb):AV:=.tu [fldA (je ls).1,Iv (je ls).2]
theorem qrb (ls:List qb):Pure (qby ls):=qca fun x hx=>by
 simp only [List.mem_cons,List.not_mem_nil,or_false] at hx
 rcases hx with rfl|rfl
 ·exact qjr fun x hx=>by
   simp only [List.mem_cons,List.not_mem_nil,or_false] at hx
   rcases hx with rfl|rfl <;> exact qq _
 ·exact qq _
def accU (l:qb) (pre:List qb):qb:=ko 32 (js l)++pre.flatMap fun s=>[10]++ko 46 (s.drop 1)
theorem q3i (l:qb) (pre:List qb) (a:qb):accU l (pre++[a])=(accU l pre++[10])++ko 46 (a.drop 1):=by
 unfold accU
 rw [List.flatMap_append]
 simp
theorem q6v (l:qb) (pre:List qb) (h:∀ s∈pre,s.length<1000000):(accU l pre).length≤l.length+1000001 * pre.length:=by
 have htr:(ko 32 (js l)).length≤l.length:=by unfold ko js;split <;> simp <;> omega
 have:=qo2 pre h
 unfold accU
 rw [List.length_append]
 omega
theorem q99 (c:UInt8):((c.toNat:Nat):Int)=46↔c=46:=u8i c 46 (by omega)
theorem qot {α : Type} {P : α→Prop} {pre:List α} {a : α} (h:∀ x∈pre,P x) (ha:P a):∀ x∈pre++[a],P x:=fun x hx=>by
 rcases List.mem_append.1 hx with hx|hx
 ·exact h x hx
 ·simp at hx;subst hx;exact ha
end Go.Proofs.YtmoklbacdkmkaaaGreatDoor
namespace Go.Pl
open Go Go.Proofs
structure LnV where
 no:Nat
 at':Nat
 text:qb
 ended : Bool
def vv (k a:Nat) (l:qb):List LnV:=if h:l=[] then [] else⟨k,a,upto 10 l,decide (10∈l)⟩::vv (k+1) (a+(upto 10 l).length+1) (past 10 l)
 termination_by l.length
 decreasing_by exact wo h
def lns (l:qb):List LnV:=vv 0 0 l
theorem qac (k a:Nat):vv k a []=[]:=by unfold vv;simp
theorem qbv {k a:Nat} {l:qb} (h:l≠[]):vv k a l=⟨k,a,upto 10 l,decide (10∈l)⟩::vv (k+1) (a+(upto 10 l).length+1) (past 10 l):=by
 conv=>lhs;unfold vv
 rw [dif_neg h]
def whole (l:qb):Prop:=l=[]∨l.getLast? = some 10
theorem q3e {l:qb} (h:whole l) (hne:l≠[]):10∈l∧whole (past 10 l):=by
 have hl:l.getLast? = some 10:=h.resolve_left hne
 have h10:10∈l:=List.mem_of_getLast? hl
 refine⟨h10,?_⟩
 by_cases hp:past 10 l=[]
 ·exact .inl hp
 ·refine .inr ?_
  have e:=xw h10
  rw [e] at hl
  rw [List.getLast?_append,List.getLast?_cons] at hl
  cases hg:(past 10 l).getLast? with
  |none=>exact absurd (List.getLast?_eq_none_iff.1 hg) hp
  |some c=>rw [hg] at hl;simpa using hl
theorem qsa:∀ (n:Nat) (d x:qb) (k a:Nat),d.length≤n→whole d→vv k a (d++x)=vv k a d++vv (k+(vv k a d).length) (a+d.length) x
 |n,d,x,k,a,hn,hw=>by
  by_cases hd:d=[]
  ·subst hd
   simp [qac]
  ·obtain⟨h10,hw'⟩:=q3e hw hd
   have e:=xw h10
   have hlt:=wo (c:=10) hd
   cases n with
   |zero=>omega
   |succ n=>
    have e2:d++x=upto 10 d++10::(past 10 d++x):=(congrArg (· ++ x) e).trans (by simp)
    have hu:upto 10 (d++x)=upto 10 d:=by rw [e2];exact yp _ (qaw 10 d)
    have hp:past 10 (d++x)=past 10 d++x:=by rw [e2];exact qa7 _ (qaw 10 d)
    have hdl:d.length=(upto 10 d).length+1+(past 10 d).length:=by
     have:=congrArg List.length e
     simp at this
     omega
    rw [qbv (l:=d++x) (by simp [hd]),qbv hd,hu,hp,qsa n (past 10 d) x _ _ (by omega) hw']
    have h1:10∈d++x:=by simp [h10]
    simp only [h1,h10,List.cons_append,List.length_cons]
    congr 2
    have e3:∀ m:Nat,k+1+m=k+(m+1):=fun m=>by omega
    rw [e3]
    congr 1
    omega
theorem zbj {c:qb} (k a:Nat) (h:10∉c):vv k a (c++[10])=[⟨k,a,c,true⟩]:=by
 rw [qbv (by simp),yp [] h,qa7 [] h,qac]
 simp
theorem q8i {c:qb} (k a:Nat) (h:10∉c) (hne:c≠[]):vv k a c=[⟨k,a,c,false⟩]:=by
 rw [qbv hne,qb0 h]
 have:past 10 c=[]:=by
  unfold past
  rw [qb0 h]
  simp
 rw [this,qac]
 simp [h]
theorem qfz:∀ (n:Nat) (l:qb) (k a:Nat),l.length≤n→(vv k a l).length≤l.length
 |n,l,k,a,hn=>by
  by_cases h:l=[]
  ·subst h;simp [qac]
  ·have hlt:=wo (c:=10) h
   cases n with
   |zero=>omega
   |succ n=>
    rw [qbv h,List.length_cons]
    have:=qfz n (past 10 l) (k+1) (a+(upto 10 l).length+1) (by omega)
    omega
theorem qto:∀ (n:Nat) (l:qb) (k a:Nat),l.length≤n→(vv k a l).map (fun x=>(x.text,x.ended))=zl l
 |n,l,k,a,hn=>by
  by_cases h:l=[]
  ·subst h;simp [qac,vq]
  ·have hlt:=wo (c:=10) h
   cases n with
   |zero=>omega
   |succ n=>rw [qbv h,v7 h,List.map_cons,qto n _ _ _ (by omega)]
end Go.Pl
namespace Go.Proofs.YtmoklbacdkmkaaaGreatDoor
open Go Go.Av Go.RowKit Go.Proofs Go.Pl
@[reducible] def lnA (x : LnV) : AV := .ag [Iv x.no, Iv x.at', Sv x.text, Bv x.ended]
@[reducible] def lnsA (xs : List LnV) : AV := .sl 4 (xs.map lnA) none
theorem q83 (xs:List LnV):Pure (lnsA xs):=qaf fun x hx=>by
 simp only [List.mem_map] at hx
 obtain⟨f,_,rfl⟩:=hx
 intro y hy
 simp [AV.cells] at hy
 rcases hy with rfl|rfl|rfl|rfl <;> exact qq _
set_option maxHeartbeats 4000000 in
theorem q22 (l:qb) (st:List AObj) (hl:l.length<100000000):qm E 61 [Sv l] st fun r st'=>r=lnsA (lns l)∧st'=st:=by
 refine qy (q83 _) (qp Tryz.func61 rfl (Nat.le_of_ble_eq_true rfl) ?_)
 repeat' (first|apply ql|apply qv|apply qe|apply qf|apply qg)
 refine q1h (i:=3) (sz:=4) (T':=122) rfl ?_
 refine xu l (fun pre s=>∃ d c,pre=d++c∧whole d∧10∉c∧StE [(0,Sv l),(3,.sl 4 ((lns d).map lnA) (some (st.length+0))),(4,Iv d.length),(5,Iv pre.length)] st [.tip (lns d).length 4 122] s) ⟨[],[],rfl,.inl rfl,by simp,qbg ⟨rfl,?_,rfl,rfl,trivial⟩ ?_⟩ ?_ ?_
 ·rw [show lns []=[] from qac 0 0];simp;rfl
 ·rw [show lns []=[] from qac 0 0];show (st++[])++[AObj.tip 0 4 _]=_;simp
 ·rintro _ ⟨d,c,hdc,hw,hc,t,ext,rfl⟩
  have hll:l.length=d.length+c.length:=by rw [hdc];simp
  have hcnt:=qfz _ d 0 0 (Nat.le_refl _)
  have hcnt':(lns d).length≤d.length:=hcnt
  have hml:((lns d).map lnA).length=(lns d).length:=by simp
  have happ:lns l=lns d++vv (lns d).length d.length c:=by
   unfold lns
   rw [hdc,qsa _ d c 0 0 (Nat.le_refl _) hw]
   simp
  have hfrom:l.drop d.length=c:=by rw [hdc];simp
  repeat' (first|apply ql|apply qe|apply qf|apply qi|apply qg|(apply qr;(iterate 3 exact rfl))|(apply qc;exact rfl;apply vo;exact cAo)|(apply qc;exact rfl;apply cd_d <;> intro h)|(apply jp;(iterate 3 exact rfl))|(apply zr;(iterate 4 exact rfl))|(apply qib;(iterate 3 exact rfl);exact cAs)|(apply vd;(iterate 3 exact rfl))|(apply j7;(iterate 9 exact rfl))|apply qs|apply jh|apply qt|(apply yi (n:=(lns d).length) (m:=1) (sz:=4) (bytes:=40);(iterate 4 exact rfl);exact hml;exact rfl;exact rfl;exact⟨⟨_,_,rfl,rfl,rfl,rfl,rfl⟩⟩;exact rfl;exact rfl;(unfold maxLen;omega);omega;exact rfl))
  ·have hne:c≠[]:=fun e=>by subst e;simp at hll;omega
   have e:AV.sl 4 ((lns d).map lnA++[AV.ag [Iv ((lns d).map lnA).length,Iv d.length,Sv (l.drop d.length),Bv false]]) none=AV.sl 4 ((lns l).map lnA) none:=by
    rw [happ,q8i _ _ hc hne,hml,hfrom,List.map_append]
    rfl
   exact qn rfl (qpv rfl rfl) ⟨e,wx _ _ _ _⟩
  ·have hce:c=[]:=List.length_eq_zero_iff.1 (by omega)
   refine qn rfl (qpv rfl rfl) ⟨?_,wx _ _ _ _⟩
   rw [happ,hce,qac,List.append_nil]
 ·rintro pre a rest _ hr ⟨d,c,hdc,hw,hc,t,ext,rfl⟩
  have hlen:l.length=pre.length+(rest.length+1):=by rw [hr];simp
  have hpl:pre.length=d.length+c.length:=by rw [hdc];simp
  have hget:l.getD pre.length 0=a:=by rw [hr];simp
  have hcnt:=qfz _ d 0 0 (Nat.le_refl _)
  have hcnt':(lns d).length≤d.length:=hcnt
  have hml:((lns d).map lnA).length=(lns d).length:=by simp
  have hsp:(l.take pre.length).drop d.length=c:=by rw [hr,List.take_left' rfl,hdc,List.drop_left' rfl]
  repeat' (first|apply ql|apply qv|apply qe|apply qf|apply qi|apply qg|(apply qr;(iterate 3 exact rfl))|(apply qc;exact rfl;apply km;exact cAo)|(apply qc;exact rfl;apply cd_d <;> intro h)|(apply jp;(iterate 3 exact rfl))|(apply zr;(iterate 4 exact rfl))|(apply zk;exact rfl;exact rfl;exact zb (by omega) (by omega))|(apply ym;(iterate 3 exact rfl);exact cAs)|(apply qln;(iterate 4 exact rfl);exact cAs;exact cAs)|(apply vd;(iterate 3 exact rfl))|(apply j7;(iterate 9 exact rfl))|apply qs|(apply yi (n:=(lns d).length) (m:=1) (sz:=4) (bytes:=40);(iterate 4 exact rfl);exact hml;exact rfl;exact rfl;exact⟨⟨_,_,rfl,rfl,rfl,rfl,rfl⟩⟩;exact rfl;exact rfl;(unfold maxLen;omega);omega;exact rfl))
  ·have ha:a=10:=by have h:=(qeu _).1 (by assumption:((l.getD pre.length 0).toNat:Int)=10);rw [hget] at h;exact h
   have happ:lns (d++(c++[10]))=lns d++[⟨(lns d).length,d.length,c,true⟩]:=by
    unfold lns
    rw [qsa _ d (c++[10]) 0 0 (Nat.le_refl _) hw,zbj _ _ hc]
    simp
   refine⟨d++(c++[10]),[],by rw [ha,hdc];simp,.inr (by simp),by simp,xf ⟨rfl,?_,?_,qd1 pre a,trivial⟩ ?_⟩
   ·have e:AV.sl 4 ((lns d).map lnA++[AV.ag [Iv ((lns d).map lnA).length,Iv d.length,Sv ((l.take pre.length).drop d.length),Bv true]]) (some (st.length+0))=AV.sl 4 ((lns (d++(c++[10]))).map lnA) (some (st.length+0)):=by
     rw [happ,hml,hsp,List.map_append]
     rfl
    exact e
   ·have e:Iv ((pre.length:Int)+1)=Iv ((d++(c++[10])).length:Nat):=by
     have:(d++(c++[10])).length=pre.length+1:=by simp;omega
     rw [this]
     rfl
    exact e
   ·rw [happ,xl];rfl
  ·have ha:a≠10:=fun e=>absurd (by rw [hget];exact (qeu _).2 e:((l.getD pre.length 0).toNat:Int)=10) (by assumption)
   exact⟨d,c++[a],by rw [hdc];simp,hw,by simp [hc,Ne.symm ha],xf ⟨rfl,rfl,rfl,qd1 pre a,trivial⟩ rfl⟩
end Go.Proofs.YtmoklbacdkmkaaaGreatDoor
namespace Go.Pl
open Go Go.Proofs
def indF (by':qb) (ls:List (qb×Bool)):qb:=ls.flatMap fun x=>by'++x.1++x9 x.2
def qcx (by' l:qb):qb:=indF by' (zl l)
theorem qwl (by':qb) (a b:List (qb×Bool)):indF by' (a++b)=indF by' a++indF by' b:=by simp [indF]
theorem qwm (by':qb) (x:qb×Bool):indF by' [x]=by'++x.1++x9 x.2:=by simp [indF]
def lsum (ls:List (qb×Bool)):Nat:=(ls.map fun x=>x.1.length+(x9 x.2).length).sum
theorem qfy:∀ (n:Nat) (l:qb),l.length≤n→lsum (zl l)=l.length∧(zl l).length≤l.length
 |n,l,hn=>by
  by_cases h:l=[]
  ·subst h;simp [vq,lsum]
  ·have hlt:=wo (c:=10) h
   cases n with
   |zero=>omega
   |succ n=>
    obtain⟨h1,h2⟩:=qfy n (past 10 l) (by omega)
    rw [v7 h]
    unfold lsum at h1 ⊢
    simp only [List.map_cons,List.sum_cons,List.length_cons]
    rw [h1]
    have hp:=j9 10 l
    have hu:=j8 10 l
    by_cases h10:10∈l
    ·have:=qc8 h10
     simp [h10,x9]
     omega
    ·have hu2:(upto 10 l).length=l.length:=by rw [qb0 h10]
     have hpos:=List.length_pos_iff.2 h
     simp [h10,x9]
     omega
theorem qon (by':qb):∀ (ls:List (qb×Bool)),(indF by' ls).length=lsum ls+by'.length * ls.length
 | []=>by simp [indF,lsum]
 |x::r=>by
  have ih:=qon by' r
  simp only [indF,lsum,List.flatMap_cons,List.length_append,List.map_cons,List.sum_cons,List.length_cons] at ih ⊢
  rw [ih,Nat.mul_add]
  omega
theorem q8j (a b:List (qb×Bool)):lsum (a++b)=lsum a+lsum b:=by simp [lsum]
end Go.Pl
namespace Go.Proofs.YtmoklbacdkmkaaaGreatDoor
open Go Go.Av Go.RowKit Go.Proofs Go.Pl
theorem q6a (text:List UInt8) (st loc:List AObj) (n:Nat) (hn:loc.length=n):qm E 100 [Sv text] (st++loc) fun r st1=>r = .fn (.func 163) [] [.bx (st.length+n) 0 0]∧st1=st++(loc++[.cells 0 9 [Sv text]]):=
 qsl text (st++loc) _ (st.length+n) (by simp [hn]) (by rw [List.append_assoc])
theorem q4w (b sep:qb) (st:List AObj) (hl:b.length≤140737488355328):qm E 156 [.sl 1 [Sv b] none,Sv sep] st fun r st'=>r=Sv b∧st'=st:=
 qr8 [b] none sep b st (by simp [Lib.join,List.intercalate]) (by simp) hl
theorem zc9 {st a b ext:List AObj} {m:Nat} (h:((st++a)++ext).length=m) (e:b.length=a.length):((st++b)++ext).length=m:=by
 simp only [List.length_append] at h ⊢
 omega
set_option maxHeartbeats 2000000 in
theorem q8a (text by':qb) (st:List AObj) (hl:text.length<100000000) (hb:by'.length<1000):qm E 138 [Sv text,.sl 1 [Sv by'] none] st fun r st'=>r=Sv (qcx by' text)∧st'=st:=by
 refine qy (qq _) (qp Tryz.func138 rfl (Nat.le_of_ble_eq_true rfl) ?_)
 obtain⟨hsum,hcnt⟩:=qfy _ text (Nat.le_refl _)
 repeat' (first|(apply qfd;exact rfl)|apply ql|apply qv|apply qe|apply qf|apply qi|apply qg|(apply ja;exact rfl;exact rfl)|(apply zp;(iterate 11 exact rfl))|(apply qk;exact Tryz.call156;exact q4w _ _ _ (by omega))|(refine qk Tryz.call100 (q6a _ _ _ _ rfl) ?_))
 refine qr1 (st:=st) text rfl rfl (by omega) (fun k rest l=>∃ q don,(q = .v (.pointer none)∨q = .bx (st.length+0) 0 0)∧zl text=don++zl rest∧l=[bldO 0 q (indF by' don) (st.length+1),.tip (indF by' don).length 1 5,.cells 0 9 [Sv by'],.cells 0 9 [Sv text]]) (fun _ _=>False)
  ⟨_,[],.inl rfl,rfl,rfl⟩ (fun k rest l ⟨q,don,_,_,e⟩=>by subst e;exact⟨rfl,rfl⟩) (fun _ _ h=>h.elim) ?_ ?_ (fun _ _ _ h=>h.elim)
 ·rintro F own rd k rest _ ext m hF ⟨q,don,hq,hd,rfl⟩ hne hle hm1 hm2
  have hmem:zl rest=(upto 10 rest,decide (10∈rest))::zl (past 10 rest):=v7 hne
  have hu:=j8 10 rest
  have hlen:=qon by' (don++[(upto 10 rest,decide (10∈rest))])
  have he:zl text=(don++[(upto 10 rest,decide (10∈rest))])++zl (past 10 rest):=by rw [hd,hmem];simp
  have hs2:lsum (don++[(upto 10 rest,decide (10∈rest))])+lsum (zl (past 10 rest))=text.length:=by rw [← q8j,← he];exact hsum
  have hc2:(don++[(upto 10 rest,decide (10∈rest))]).length+(zl (past 10 rest)).length≤text.length:=by rw [← List.length_append,← he];exact hcnt
  have hm:by'.length * (don++[(upto 10 rest,decide (10∈rest))]).length≤1000 * 100000000:=Nat.mul_le_mul (by omega) (by omega)
  rw [qwl,qwm] at hlen
  simp only [List.length_append] at hlen hm hc2
  repeat' (first|(apply qyg;exact rfl;assumption;exact rfl)|(apply qai;exact rfl;assumption;(iterate 10 exact rfl))|apply qe|apply qf)
  refine⟨_,rfl,rfl,?_⟩
  repeat' (first|apply ql|apply qv|apply qe|apply qf|(apply qc;exact rfl;apply cd_d <;> intro h)|(apply jt;exact rfl;exact rfl;exact cOs)|(apply zg;(iterate 3 exact rfl))|(apply qlc;(iterate 5 exact rfl))|apply qs|(apply qbc;exact rfl;exact zc9 hm2 rfl;(iterate 4 exact rfl))|(refine qk Tryz.call136 (qgk st _ _ _ _ 0 1 0 _ _ _ rfl rfl ?_ ?_ rfl) ?_;(first|exact hq|exact .inr rfl);(simp only [List.length_append,List.length_cons,List.length_nil];omega)))
  all_goals
   have hx:indF by' (don++[(upto 10 rest,decide (10∈rest))])=(indF by' don++(by'++upto 10 rest))++x9 (decide (10∈rest)):=by
    rw [qwl,qwm];simp
   refine⟨[bldO 0 (.bx (st.length+0) 0 0) (indF by' (don++[(upto 10 rest,decide (10∈rest))])) (st.length+1),.tip (indF by' (don++[(upto 10 rest,decide (10∈rest))])).length 1 5,.cells 0 9 [Sv by'],.cells 0 9 [Sv text]],ext,[.cells 0 181 (qcy k text rest).cells],?_,_,_,.inr rfl,he,rfl⟩
  ·have h10:10∈rest:=by simp_all
   rw [hx,show x9 (decide (10∈rest))=[10] by simp [h10,x9]]
   rfl
  ·have h10:10∉rest:=by simp_all
   have hx2:indF by' (don++[(upto 10 rest,decide (10∈rest))])=indF by' don++(by'++upto 10 rest):=by
    rw [hx];simp [h10,x9]
   rw [hx2]
   rfl
 ·rintro k _ ext ⟨q,don,hq,hd,rfl⟩
  repeat' (first|apply ql|apply qe|apply qf|apply qg|apply qt|(refine qk Tryz.call139 (qfe st _ _ _ _ 0 1 0 _ _ rfl rfl rfl) ?_))
  refine quf (k:=4) rfl rfl rfl (qn rfl (q9 rfl) ⟨congrArg (fun l:qb=>Sv l) (?_:_=qcx by' text),wx _ _ _ _⟩)
  rw [vq,List.append_nil] at hd
  unfold qcx
  rw [hd]
end Go.Proofs.YtmoklbacdkmkaaaGreatDoor
namespace Go.Pl
open Go Go.Proofs
def qcg (x:LnV):qb×Bool:=(x.text,x.ended)
theorem q42 (l:qb):(lns l).map qcg=zl l:=qto _ l 0 0 (Nat.le_refl _)
end Go.Pl
namespace Go.Av
open Go Go.RowKit
def TipC (b:Nat) (st:List AObj) (sz:Nat) (T:TypeId) (xs:List AV) (c:AV):Prop:=(xs=[]∧c=zh)∨∃ t,c = .sl sz xs (some t)∧st[t]? = some (.tip xs.length sz T)∧b≤t
structure Fr (st st':List AObj) (t:Nat):Prop where
 len:st.length≤st'.length
 same:∀ k,k≠t→k<st.length→st'[k]? = st[k]?
theorem q9r (b:Nat) (st:List AObj) (sz:Nat) (T:TypeId):TipC b st sz T [] zh:=.inl ⟨rfl,rfl⟩
theorem qh5 {b:Nat} {st l:List AObj} {sz:Nat} {T:TypeId} {xs:List AV} {c:AV} (h:TipC b st sz T xs c):TipC b (st++l) sz T xs c:=by
 rcases h with h | ⟨t,h1,h2,h3⟩
 ·exact .inl h
 ·exact .inr ⟨t,h1,by rw [List.getElem?_append_left (lt_of_getElem? h2)];exact h2,h3⟩
section
variable {E : Env} {rd : Option Nat} {N : Nat} {ops : Array Oper} {K : AS → Prop} {s : AS} {rest : List Oper} {d : Option Tmp} {T : TypeId} {p : String} {af : Array Edge}
theorem qvf {x y:Operand} {t u T':TypeId} {sz bytes b:Nat} {xs ys:List AV} {tip:Option Nat} {c:AV} {st:List AObj} (hst:s.st=st) (hx:qj N s x=c) (hc:TipC b st sz T' xs c) (hb:b≤st.length) (hy:qj N s y = .sl sz ys tip)
  (ht:E.P.underlying t=some (.slice T')) (hu:E.P.underlying u=some (.slice T')) (hT:xb E.P T' sz bytes) (hone:ju (flat ys)=true) (h63:xs.length+ys.length≤maxLen) (hby:(xs.length+ys.length) * bytes≤140737488355328)
  (h:∀ t1 st',st'[t1]? = some (.tip (xs++ys).length sz T')→b≤t1→Fr st st' t1→(c = .sl sz xs (some t1)∨st.length≤t1)→AOps E rd N ops rest K (AS.put ⟨s.t,st',s.df⟩ d (.sl sz (xs++ys) (some t1)))):AOps E rd N ops (⟨d,.call ⟨.builtin .append,#[x,y],#[t,u]⟩,T,p,af,none⟩::rest) K s:=by
 subst hst
 refine q6 rfl (qz nofun fun B0 w0 G a w _ hI=>?_)
 rcases hc with⟨hxs,hcn⟩ | ⟨t1,h1,h2,h3⟩
 ·subst hxs
  have hle:=G.le_new 0 0 0 false
  have hA:=hI.agree.newTip sz T'
  have hv:a.eval x = .slice none 0 0:=hI.evalv (hx.trans hcn)
  have hn:=hI.agree.n
  obtain⟨news,k1,k2,k3⟩:=xv (P:=E.P) hA ((hI.eval_of hy).mono hle) (by simpa [ju] using hone)
  have hr:Rel (G.new 0 0 0 false) (.sl sz [] (some s.st.length)) (a.eval x):=by
   rw [hv]
   exact .sl0 sz _ none 0 fun t ht=>by simp only [Option.some.injEq] at ht;subst ht;exact⟨by simp [Gh.new,hn],rfl,rfl⟩
  obtain⟨v',w',G',e1,e2,e3,e4⟩:=qbb (ty:=T) hA ht hu (.inr ⟨_,rfl⟩) hT (t:=s.st.length) (n:=0) (by simp) hr rfl rfl k1 k2 k3 (by simpa using h63) (by simpa using hby)
  refine⟨v',w',G',_,_,?_,hle.trans e2,e3,e4,h s.st.length _ ?_ hb ⟨by simp,fun k hk hlt=>?_⟩ (.inr (Nat.le_refl _))⟩
  ·generalize a.eval = ρ at e1
   simp [execOp,resolve,invoke,builtin,e1]
  ·simp
  ·rw [List.getElem?_set_ne (Ne.symm hk),List.getElem?_append_left hlt]
 ·obtain⟨news,k1,k2,k3⟩:=xv (P:=E.P) hI.agree (hI.eval_of hy) (by simpa [ju] using hone)
  obtain⟨v',w',G',e1,e2,e3,e4⟩:=qbb (ty:=T) hI.agree ht hu (.inr ⟨_,rfl⟩) hT h2 (hI.eval_of (hx.trans h1)) rfl rfl k1 k2 k3 h63 hby
  refine⟨v',w',G',_,_,?_,e2,e3,e4,h t1 _ ?_ h3 ⟨by simp,fun k hk hlt=>?_⟩ (.inl h1)⟩
  ·generalize a.eval = ρ at e1
   simp [execOp,resolve,invoke,builtin,e1]
  ·rw [List.length_append]
   exact jy h2
  ·rw [List.getElem?_set_ne (Ne.symm hk)]
theorem qlm {t:TypeId} {x:Operand} {r:AV} {cs:List AV} (hx:qj N s x=r) (hok:r.okc=true) (hc:r.cells=cs)
  (h:AOps E rd N ops rest K (s.put d (.pp cs))):AOps E rd N ops (⟨d,.box t x,T,p,af,none⟩::rest) K s:=by
 refine q6 rfl (qz nofun fun B0 w0 G a w _ hI=>?_)
 have hr:=(hI.eval_of hx).cells hok
 rw [hc] at hr
 obtain⟨hle,hA⟩:=hI.agree.newPub t (a.eval x).cells (0,0) (a.eval x).cells.toList (fun i y hy=>by simpa using hy)
 have hrun:(execOp a.eval ⟨d,.box t x,T,p,af,none⟩).run E.P w = .ok (.value (.pointer (some ⟨w.heap.size,0,none⟩))) (w.alloc (.cells (a.eval x).cells t)):=by
  generalize a.eval = ρ
  simp [execOp,Instr.box,newVar,newRow,newObj,Sem.run]
 refine⟨_,_,_,.pp cs,s.st,hrun,hle,hA,.pp cs w.heap.size 0 (a.eval x).cells.toList (by simp [Gh.publish]) (by rw [hr.1];simp) fun i x y hx hy=>(hr.2 i x y hx (by simpa using hy)).mono hle,h⟩
end
theorem qnb {E:Env} {f:FuncId} {x x':AV} {us:List AV} {st:List AObj} {R:AV→List AObj→Prop} (hw:∀ G v,Rel G x v→Rel G x' v) (h:qm E f (x'::us) st R):qm E f (x::us) st R:=
 ⟨fun B0 w0 G vals w hL hA hR=>h.run B0 w0 G vals w hL hA ⟨by have:=hR.1;simpa using this,fun i a b ha hb=>by
  cases i with
  |zero=>simp at ha;subst ha;exact hw G b (hR.2 0 x b rfl hb)
  |succ i=>exact hR.2 (i+1) a b (by simpa using ha) hb⟩⟩
theorem qa6 {st l:List AObj} {o:Nat} {x:AObj} (h:st[o]? = some x):(st++l)[o]? = some x:=by
 rw [List.getElem?_append_left (lt_of_getElem? h)];exact h
theorem xd {st:List AObj} {x:AObj}:(st++[x])[st.length]? = some x:=by simp
section
variable {E : Env} {rd : Option Nat} {N : Nat} {ops : Array Oper} {K : AS → Prop} {s : AS} {rest : List Oper} {d : Option Tmp} {T : TypeId} {p : String} {af : Array Edge}
theorem qi1 {t:TypeId} {st:List AObj} {cs:List AV} (hst:s.st=st) (hz:qg4 E.P t=some cs)
  (h:AOps E rd N ops rest K (AS.put ⟨s.t,st++[.cells 0 t cs],s.df⟩ d (.bx st.length 0 0))):AOps E rd N ops (⟨d,.alloc t,T,p,af,none⟩::rest) K s:=
 ja (loc:=[]) (by rw [hst];simp) hz h
theorem q3l {t:TypeId} {x:Operand} {st:List AObj} {r:AV} {cs:List AV} (hst:s.st=st) (hx:qj N s x=r) (hok:r.okc=true) (hc:r.cells=cs)
  (h:AOps E rd N ops rest K (AS.put ⟨s.t,st++[.cells 0 t cs],s.df⟩ d (.bx st.length 0 0))):AOps E rd N ops (⟨d,.box t x,T,p,af,none⟩::rest) K s:=
 qa5 (loc:=[]) (by rw [hst];simp) hx hok hc h
end
theorem qj7 {st st':List AObj} (hl:st.length≤st'.length) (h:∀ k,k<st.length→st'[k]? = st[k]?):∃ ext,st'=st++ext:=by
 refine⟨st'.drop st.length,?_⟩
 apply List.ext_getElem?
 intro k
 by_cases hk:k<st.length
 ·rw [h k hk,List.getElem?_append_left hk]
 ·rw [List.getElem?_append_right (by omega),List.getElem?_drop]
  congr 1
  omega
end Go.Av
namespace Go.Proofs.YtmoklbacdkmkaaaGreatDoor
open Go Go.Av Go.RowKit Go.Proofs
def qhx (x:Option AObj):Prop:=∀ n sz T,x≠some (.tip n sz T)
theorem yg {ver:Nat} {T:TypeId} {cs:List AV} {x:Option AObj} (h:x=some (.cells ver T cs)):qhx x:=fun n sz T' e=>by
 rw [h] at e
 simp at e
end Go.Proofs.YtmoklbacdkmkaaaGreatDoor
namespace Go.Proofs.YtmoklbacdkmkaaaGreatDoor
open Go Go.Av Go.RowKit Go.Proofs Go.Pl
structure Ext (n:Nat) (S S':List AObj):Prop where
 len:S.length≤S'.length
 low:∀ k,k<n→S'[k]? = S[k]?
 tips:∀ (t m sz:Nat) (T:TypeId),S[t]? = some (AObj.tip m sz T)→S'[t]? = S[t]?
theorem qg5 {n:Nat} {S l:List AObj} (h:n≤S.length):Ext n S (S++l):=⟨by simp,fun k hk=>List.getElem?_append_left (by omega),fun t m sz T ht=>List.getElem?_append_left (lt_of_getElem? ht)⟩
theorem qcv {n o:Nat} {S:List AObj} {x:AObj} (h:n≤o) (hn:qhx S[o]?):Ext n S (S.set o x):=⟨by simp,fun k hk=>List.getElem?_set_ne (by omega),fun t m sz T ht=>List.getElem?_set_ne (fun e=>by subst e;exact hn _ _ _ ht)⟩
theorem Ext.weak {n m:Nat} {S S':List AObj} (h:Ext n S S') (hm:m≤n):Ext m S S':=⟨h.len,fun k hk=>h.low k (by omega),h.tips⟩
theorem Ext.trans {n:Nat} {S S' S'':List AObj} (h:Ext n S S') (k:Ext n S' S''):Ext n S S'':=⟨Nat.le_trans h.len k.len,fun i hi=>(k.low i hi).trans (h.low i hi),fun t m sz T ht=>(k.tips t m sz T ((h.tips t m sz T ht).trans ht)).trans (h.tips t m sz T ht)⟩
theorem q59 (text:List UInt8) (o kb ver n m:Nat) (I:Nat→List UInt8→List AObj→Prop) (D:List AObj→Prop) (S:List AObj) (hm:S.length=m) (hn:n≤m) (ht:text.length<4294967281) (h0:I 0 text S)
  (hI:∀ k rest S',I k rest S'→S'[kb]? = some (.cells ver 9 [Sv text]))
  (hst:∀ k rest S' S'',Ext n S' S''→I k rest S'→I k rest S'')
  (hY:∀ k rest S' cs,I k rest S'→S'[m]? = some (.cells 0 181 cs)→rest≠[]→rest.length≤text.length→xx E o [qcy k text rest] S' fun b S''=>S''[m]? = some (.cells 0 181 cs)∧(b=true→I (k+1) (past 10 rest) S'')∧(b=false→D S'')) :
  qm E 163 [.yd o,.bx kb ver 0] S fun r S'=>(∃ k,I k [] S')∨D S':=by
 subst hm
 refine qp Tryz.func163 rfl (Nat.le_of_ble_eq_true rfl) ?_
 have hb:=hI 0 text S h0
 repeat' (first|apply ql|apply qv|apply qe|apply qf|apply qg|(apply ja;exact rfl;exact rfl)|(apply zp;(iterate 11 exact rfl))|(apply vd;(iterate 3 exact rfl))|(apply y9;exact rfl;exact rfl;exact hb;exact rfl;exact rfl))
 refine kh (fun (x:Nat×List UInt8) s=>match x with|(k,rest)=>∃ S' at' ta eb,I k rest S'∧k+rest.length≤text.length∧at'=(text.length:Int) - rest.length∧S'[S.length]? = some (.cells 0 181 [Iv k,Iv at',Sv ta,Bv eb])∧StA [(0,.yd o),(1,.bx kb ver 0),(3,.bx S.length 0 0),(4,Sv rest)] S' [] s) (fun x=>x.2.length) (0,text)
  ⟨_,0,[],false,hst _ _ _ _ (qg5 hn) h0,by simp,by simp,jb (k:=0) rfl,jw ⟨rfl,rfl,rfl,rfl,trivial⟩⟩ ?_
 rintro⟨k,rest⟩ _ ⟨S',_,ta,eb,hi,hle,rfl,hown,t,rfl⟩
 have hb':=hI k rest S' hi
 repeat' (first|apply ql|apply qv|apply qe|apply qf|apply qi|apply qg|(apply za;exact rfl;exact rfl)|(apply jo;(iterate 3 exact rfl))|(apply qc;exact rfl;apply cd_d <;> intro h)|(apply zg;(iterate 3 exact rfl))|apply qs|apply jh|(apply qk;exact Tryz.call96;exact qhg _ _ _ (by omega))|(apply ka;exact rfl;(focus first|assumption|(repeat' (first|assumption|exact xd|exact jb rfl|apply jy|apply kf|omega|apply qa6)));exact rfl;exact rfl)|(apply xq;exact rfl;exact rfl;(focus first|assumption|(repeat' (first|assumption|exact xd|exact jb rfl|apply jy|apply kf|omega|apply qa6)));(iterate 6 exact rfl)))
 ·have e1:Ext n S' ((S'.set S.length (.cells 0 181 [Iv k,Iv ((text.length:Int) - rest.length),Sv (upto 10 rest),Bv eb])).set S.length (.cells 0 181 [Iv k,Iv ((text.length:Int) - rest.length),Sv (upto 10 rest),Bv (decide (10∈rest))])):=
   (qcv hn (yg hown)).trans (qcv hn (yg (jy hown)))
  apply qct (o:=o) rfl
  refine xx.mono (hY k rest _ _ (hst _ _ _ _ e1 hi) (jy (jy hown)) h (by omega)) ?_
  rintro b S2 ⟨hown2,h1,h2⟩
  show AOps _ _ _ _ _ _ _
  cases b
  ·skip
   repeat' (first|apply qf|(apply z6;exact rfl)|(apply qc;exact rfl;apply qii;exact cRa)|apply qt)
   exact qn rfl (yc rfl) (.inr (h2 rfl))
  ·have hi3:=h1 rfl
   have hb3:=hI _ _ _ hi3
   have hp:=j9 10 rest
   have hr0:0<rest.length:=List.length_pos_iff.2 h
   have hkb:kb≠S.length:=fun e=>by
    rw [e,hown2] at hb3
    simp at hb3
   repeat' (first|apply ql|apply qe|apply qf|apply qi|(apply z6;exact rfl)|(apply qc;exact rfl;apply qmt;exact cRa)|(apply jp;(iterate 3 exact rfl))|(apply zk;exact rfl;exact rfl;exact zb (by omega) (by omega))|(apply qch;exact rfl;exact rfl;exact zb (by omega) (by omega))|(apply zg;(iterate 3 exact rfl))|apply qs|(apply ka;exact rfl;exact kf hb3 (Ne.symm hkb);exact rfl;exact rfl)|(apply ka;exact rfl;(focus first|assumption|(repeat' (first|assumption|exact xd|exact jb rfl|apply jy|apply kf|omega|apply qa6)));exact rfl;exact rfl)|(apply xq;exact rfl;exact rfl;(focus first|assumption|(repeat' (first|assumption|exact xd|exact jb rfl|apply jy|apply kf|omega|apply qa6)));(iterate 6 exact rfl)))
   have e2:Ext n S2 _:=(qcv hn (yg hown2)).trans (qcv (x:=.cells 0 181 [Iv ((k:Int)+1),Iv ((text.length:Int) - (past 10 rest).length),Sv (upto 10 rest),Bv (decide (10∈rest))]) hn (yg (jy (y:=.cells 0 181 [Iv ((k:Int)+1),Iv ((text.length:Int) - rest.length),Sv (upto 10 rest),Bv (decide (10∈rest))]) hown2)))
   exact⟨(k+1,past 10 rest),⟨_,_,_,_,hst _ _ _ _ e2 hi3,by omega,rfl,jy (jy hown2),jw ⟨rfl,rfl,rfl,rfl,trivial⟩⟩,by simp only;omega⟩
 ·have hr:rest=[]:=Classical.not_not.1 h
  subst hr
  exact qn rfl (yc rfl) (.inl ⟨k,hi⟩)
structure ItC (g:FuncId) (T:TypeId) (cs:List AV) {ι : Type} (Y : ι→Option (AV×ι)) (i0 : ι):Prop where
 run:∀ (o kb n m:Nat) (I : ι→List AObj→Prop) (D:List AObj→Prop) (S:List AObj),S.length=m→n≤m→I i0 S →
  (∀ i S',I i S'→S'[kb]? = some (.cells 0 T cs))→(∀ i S' S'',Ext n S' S''→I i S'→I i S'') →
  (∀ i x j S' (own:List AObj),I i S'→(∀ k y,own[k]? = some y→S'[m+k]? = some y∧qhx (some y))→Y i=some (x,j)→xx E o [x] S' fun b S''=>(∀ k y,own[k]? = some y→S''[m+k]? = some y)∧(b=true→I j S'')∧(b=false→D S'')) →
  qm E g [.yd o,.bx kb 0 0] S fun r S'=>(∃ i,Y i=none∧I i S')∨D S'
def qmm (text:List UInt8):Nat×List UInt8→Option (AV×(Nat×List UInt8))
 |(k,rest)=>if rest=[]∨text.length<rest.length then none else some (qcy k text rest,(k+1,past 10 rest))
theorem q9m (text:List UInt8) (ht:text.length<4294967281):ItC 163 9 [Sv text] (qmm text) (0,text):=⟨fun o kb n m I D S hm hn h0 hI hst hY=>by
 refine (q59 text o kb 0 n m (fun k rest S=>I (k,rest) S∧rest.length≤text.length) D S hm hn ht ⟨h0,Nat.le_refl _⟩ (fun k rest S' h=>hI _ _ h.1) (fun k rest S' S'' hE h=>⟨hst _ _ _ hE h.1,h.2⟩) (fun k rest S' cs hi hown hne hle=>?_)).mono ?_
 ·refine (hY (k,rest) (qcy k text rest) (k+1,past 10 rest) S' [.cells 0 181 cs] hi.1 (fun j y hy=>?_) (if_neg fun h=>h.elim hne (by omega))).mono fun b S'' ⟨h1,h2,h3⟩=>⟨by have:=h1 0 _ rfl;simpa using this,fun hb=>⟨h2 hb,by have:=j9 10 rest;omega⟩,h3⟩
  match j with
  | 0=>
   simp only [List.getElem?_cons_zero,Option.some.injEq] at hy
   subst hy
   exact⟨hown,yg rfl⟩
  |j+1=>simp at hy
 ·rintro r S' (⟨k,h⟩|h)
  ·exact .inl ⟨(k,[]),by simp [qmm],h.1⟩
  ·exact .inr h⟩
@[reducible] def zdt (n : Nat) (F : LoopState → Option Code → AObj) (own : List AObj) (I : List AObj → Prop) (D : Code → List AObj → Prop) : Exit → AS → Prop
 | .normal,s=>s.st[n]? = some .dfr∧s.st[n+1]? = some (F .busy none)∧(∀ k y,own[k]? = some y→s.st[n+2+k]? = some y)∧I s.st
 | .ret,s=>s.st[n]? = some .dfr∧s.st[n+1]? = some (F .busy none)∧(∀ k y,own[k]? = some y→s.st[n+2+k]? = some y)∧D .ret s.st
 | .exit id,s=>s.st[n]? = some .dfr∧s.st[n+1]? = some (F .busy none)∧(∀ k y,own[k]? = some y→s.st[n+2+k]? = some y)∧D (.exit id) s.st
 | _,_=>False
theorem qhy {N:Nat} {t:Nat→AV} {ps:Array Tmp} {asg body:Code} {F:LoopState→Option Code→AObj} (hF:qjv F N t ps asg body) (ls:LoopState) (pend:Option Code) {x:Option AObj} (h:x=some (F ls pend)):qhx x:=fun n sz T' e=>by
 rw [h,hF] at e
 simp at e
theorem qvq {N:Nat} {Q:Exit→AS→Prop} {s:AS} {f:Operand} {p:Tmp} {asg body:Code} {S0:List AObj} {kb:Nat} {g:FuncId} {T:TypeId} {cs:List AV} {ι : Type} {Y : ι→Option (AV×ι)} {i0 : ι} (hit:ItC g T cs Y i0) (hst:s.st=S0) (hx:qj N s f = .fn (.func g) [] [.bx kb 0 0])
  (hrun:∀ vs w,(callFunc g vs).run E.P w = .ok (.enter g vs) w)
  (I : ι→List AObj→Prop) (D:Code→List AObj→Prop) (h0:I i0 S0)
  (hI:∀ i S,I i S→S[kb]? = some (.cells 0 T cs))
  (hs1:∀ i S S',Ext S0.length S S'→I i S→I i S') (hs2:∀ c S S',Ext S0.length S S'→D c S→D c S')
  (hb:∀ F (own:List AObj) rd i x j S,qjv F N s.t #[p] asg body→I i S→Y i=some (x,j)→S[S0.length]? = some .dfr→S[S0.length+1]? = some (F .ready none)→(∀ k y,own[k]? = some y→S[S0.length+2+k]? = some y∧qhx (some y)) →
   AWp E (some rd) N asg (only fun s1=>s1.st[S0.length+1]? = some (F .ready none)∧s1.df=[]∧AWp E (some rd) N body (zdt S0.length F own (I j) D) ⟨s1.t,s1.st.set (S0.length+1) (F .busy none),[]⟩) ⟨put s.t p x,S,[]⟩)
  (hn:∀ i S,Y i=none→I i S→S[S0.length]? = some .dfr→Q .normal ⟨s.t,S,S0.length::s.df⟩)
  (hd:∀ c S,D c S→S[S0.length]? = some .dfr→AWp E none N c Q ⟨s.t,S,S0.length::s.df⟩):AWp E none N (.rangeFunc f #[p] asg body) Q s:=by
 refine qj1 (st:=S0) (loc:=[]) (by rw [hst];simp) hx hrun fun F hF=>?_
 have hl:(S0++([]++[AObj.dfr,F .ready none])).length=S0.length+2:=by simp
 have g1:(S0++([]++[AObj.dfr,F .ready none]))[S0.length]? = some .dfr:=by simp
 have g2:(S0++([]++[AObj.dfr,F .ready none]))[S0.length+1]? = some (F .ready none):=by simp
 have hz:S0.length+(([]:List AObj).length+1)=S0.length+1:=by simp
 rw [hz,show S0.length+([]:List AObj).length=S0.length from rfl]
 refine qm.mono (hit.run (S0.length+1) kb (S0.length+2) (S0.length+2) (fun i S=>I i S∧S[S0.length]? = some .dfr∧S[S0.length+1]? = some (F .ready none)) (fun S=>∃ c,D c S∧S[S0.length]? = some .dfr∧S[S0.length+1]? = some (F .done (some c))) (S0++([]++[.dfr,F .ready none])) hl (Nat.le_refl _) ⟨hs1 _ _ _ (qg5 (Nat.le_refl _)) h0,g1,g2⟩ (fun i S h=>hI i S h.1) (fun i S S' hE h=>⟨hs1 _ _ _ (hE.weak (by omega)) h.1,(hE.low _ (by omega)).trans h.2.1,(hE.low _ (by omega)).trans h.2.2⟩) ?_) ?_
 ·rintro i x j S' own ⟨hi,hd1,hf1⟩ hown hy
  refine qob hF hf1 rfl fun rd=>?_
  refine (hb F own rd i x j S' hF hi hy hd1 hf1 hown).mono fun e s1 hq=>?_
  have fin:∀ {S:List AObj} {z:AObj},(∀ k y,own[k]? = some y→S[S0.length+2+k]? = some y)→∀ k y,own[k]? = some y→(S.set (S0.length+1) z)[S0.length+2+k]? = some y:=fun h k y hk=>kf (h k y hk) (by omega)
  cases e with
  |normal=>
   obtain⟨q1,q2,q3⟩:=hq
   refine⟨q1,q2,q3.mono fun e s2 hq2=>?_⟩
   cases e with
   |normal=>
    obtain⟨k1,k2,k3,k4⟩:=hq2
    exact⟨k2,fin k3,fun _=>⟨hs1 _ _ _ (qcv (by omega) (qhy hF _ _ k2)) k4,kf k1 (by omega),jy k2⟩,nofun⟩
   |ret=>
    obtain⟨k1,k2,k3,k4⟩:=hq2
    exact⟨k2,fin k3,nofun,fun _=>⟨_,hs2 _ _ _ (qcv (by omega) (qhy hF _ _ k2)) k4,kf k1 (by omega),jy k2⟩⟩
   |exit id=>
    obtain⟨k1,k2,k3,k4⟩:=hq2
    exact⟨k2,fin k3,nofun,fun _=>⟨_,hs2 _ _ _ (qcv (by omega) (qhy hF _ _ k2)) k4,kf k1 (by omega),jy k2⟩⟩
   | _=>exact hq2.elim
  | _=>exact hq.elim
 ·rintro r S' (⟨i,hy,hi,hd1,hf1⟩ | ⟨c,hi,hd1,hf1⟩)
  ·exact⟨.ready,none,nofun,hf1,hn i _ hy (hs1 _ _ _ (qcv (by omega) (qhy hF _ _ hf1)) hi) (kf hd1 (by omega))⟩
  ·exact⟨.done,some c,nofun,hf1,hd c _ (hs2 _ _ _ (qcv (by omega) (qhy hF _ _ hf1)) hi) (kf hd1 (by omega))⟩
end Go.Proofs.YtmoklbacdkmkaaaGreatDoor
namespace Go.Av
open Go Go.RowKit
theorem qpf {P:Program} {B0:Nat} {w0:World} {G:Gh} {st:List AObj} {w:World} (hA:zf B0 w0 G st w) {tt u ty T:TypeId} {du:TypeDesc} (htt:P.underlying tt=some (.slice T)) (hu:P.underlying u=some du) (hd:qg8 du)
  {sz bytes:Nat} (hT:xb P T sz bytes) {t n m:Nat} (ht:st[t]? = some (.tip n sz T)) {xs ys:List AV} {x:Value} (hn:xs.length=n) (hm:ys.length=m)
  {news:List Value} (hx:Src P w x m sz news) (hys:∀ y∈ys,y.cells.length=sz) (hrel:∀ (i:Nat) (a:AV) (b:Value),(flat ys)[i]? = some a→news[i]? = some b→Rel G a b)
  (h63:n+m≤maxLen) (base:Option Addr) (c:Nat) (olds:List Value) (ho:(Builtin.firstCells sz n (.slice base n c)).run P w.drew = .ok olds.toArray w.drew) (hc:c<n+m) (hol:olds.length=n * sz) (hfx:(flat xs).length=n * sz) (hwx:∀ x∈xs,x.cells.length=sz)
  (hrx:∀ (j:Nat) (a:AV) (b:Value),(flat xs)[j]? = some a→olds[j]? = some b→Rel G a b) (hfit:Builtin.nextslicecap (n+m) c * bytes≤281474976710656) (hm0:m≠0) :
  ∃ v' w' G',(Builtin.append_ #[tt,u] ty #[.slice base n c,x]).run P w = .ok v' w'∧G.le G'∧zf B0 w0 G' (st.set t (.tip (n+m) sz T)) w'∧Rel G' (.sl sz (xs++ys) (some t)) v':=by
 obtain⟨i,z,hi,hz,rfl,rfl,hzs⟩:=hT.ex
 obtain⟨hraw,hver,htip⟩:=hA.ob t _ ht
 have htn:t<G.n:=by rw [hA.n];exact lt_of_getElem? ht
 have hlt:G.n=st.length:=hA.n
 have hk:=hA.kill t
 have hkt:(st.set t .dead)[t]? = some .dead:=qcm ht
 have hother:∀ o x,(st.set t .dead)[o]? = some x→x.live→o≠t∧st[o]? = some x:=fun o x hx hl=>by
  rcases getElem?_set' _ _ _ _ _ hx with⟨_,e⟩ | ⟨h1,h2⟩
  ·subst e;exact hl.elim
  ·exact⟨h1,h2⟩
 have hset:(st.set t AObj.dead).set t (.tip (n+m) i.size T)=st.set t (.tip (n+m) i.size T):=by rw [List.set_set]
 have hself:st.set t (.tip n i.size T)=st:=by
  apply List.ext_getElem?
  intro k
  by_cases e:t=k
  ·subst e;rw [List.getElem?_set_self (lt_of_getElem? ht)];exact ht.symm
  ·rw [List.getElem?_set_ne e]
 have hrun:=qes (ty:=ty) htt hu hd hi hz hx base n c olds ho hc (by simp only [maxLen] at h63;omega) hfit
 have hge:=grownCap_ge w (n+m) c T
 have hle:=grownCap_le_maxLen w (n+m) c T h63
 generalize grownCap w (n+m) c T=cap at hrun hge hle
 have hsz:(olds.toArray++news.toArray++Builtin.zeroCells z.cells (cap - (n+m))).size=cap * i.size:=by
  simp only [Array.size_append,List.size_toArray,size_zeroCells,hzs,hol,hx.count,← Nat.add_mul]
  congr 1
  omega
 generalize hcv:olds.toArray++news.toArray++Builtin.zeroCells z.cells (cap - (n+m))=c' at hrun hsz
 have hdrew:Below w.heap.size w w.drew:=⟨rfl,rfl,rfl,Nat.le_refl _,fun _ _=>rfl⟩
 have hA1:=hk.fresh hdrew
 have hpre:∀ (j:Nat) (y:Value),(olds++news)[j]? = some y→c'[j]? = some y:=fun j y hy=>by
  have hj:=lt_of_getElem? hy
  rw [← hcv,Array.getElem?_append_left (by simp at hj ⊢;omega),List.append_toArray]
  simpa using hy
 obtain⟨hle1,hA2⟩:=hA1.newPub T c' (0,0) (olds++news) hpre
 have hnp:G.pub w.heap.size=none:=by
  cases hp:G.pub w.heap.size with
  |none=>rfl
  |some vs=>exact absurd (hA.pub_lt hp) (Nat.lt_irrefl _)
 obtain⟨hle2,hA3⟩:=hA2.setTip (n':=n+m) (vs:=olds++news) (k:=w.heap.size) (cap:=cap * i.size) (sz:=i.size) (T:=T) hkt (by simpa [Gh.publish] using hraw) (by simpa [Gh.publish] using hver) (by omega) (x6 w.drew _) (by simp [Gh.publish]) (by simp [hol,hx.count,Nat.add_mul]) hsz hA.hB (fun o x hx hl=>by
  obtain⟨_,hx'⟩:=hother o x hx hl
  exact Nat.ne_of_lt ((hA.ob o x hx').lt hl))
 rw [hset] at hA3
 refine⟨_,_,_,hrun,hle1.trans hle2,hA3,?_⟩
 have hmono:∀ {a b},Rel G a b→Rel ((G.publish w.drew.heap.size (olds++news)).setOb t ⟨n+m,w.heap.size,cap * i.size,false⟩) a b:=fun h=>(h.mono hle1).mono hle2
 refine qsq (n:=n) (m:=m) (cap:=cap) (k:=w.heap.size) (vs:=olds) (news:=news) (by simp [Gh.setOb]) (by simp [Gh.setOb]) (by simp [Gh.setOb]) hle hge (by simpa [Gh.setOb,Gh.publish] using htn) (by omega) hn hm (by simp [Gh.setOb,Gh.publish]) (fun y hy=>?_) hol hx.count hfx (fun j a b h1 h2=>hmono (hrx j a b h1 h2)) (fun j a b h1 h2=>hmono (hrel j a b h1 h2))
 rcases List.mem_append.1 hy with h|h
 ·exact hwx y h
 ·exact hys y h
def TipO (b:Nat) (st:List AObj) (sz:Nat) (T:TypeId) (xs:List AV) (c:AV):Prop:=TipC b st sz T xs c∨(xs=[]∧∃ o v f,c = .os o v f 0 0)
theorem qya (b:Nat) (st:List AObj) (sz:Nat) (T:TypeId):TipO b st sz T [] zh:=.inl (q9r ..)
theorem q0v (b:Nat) (st:List AObj) (sz:Nat) (T:TypeId) (o v f:Nat):TipO b st sz T [] (.os o v f 0 0):=.inr ⟨rfl,_,_,_,rfl⟩
theorem zbw {G:Gh} {o v f:Nat} {sz:Nat} {x:Value} (h:Rel G (.os o v f 0 0) x):Rel G (.sl sz [] none) x:=by
 cases h with
 |os _ _ _ _ b _ hn hv h=>exact .sl0 sz none _ _ (by simp)
section
variable {E : Env} {rd : Option Nat} {N : Nat} {ops : Array Oper} {K : AS → Prop} {s : AS} {rest : List Oper} {d : Option Tmp} {T : TypeId} {p : String} {af : Array Edge}
theorem qhb {x y:Operand} {t u T':TypeId} {sz bytes b:Nat} {xs ys:List AV} {tip:Option Nat} {c:AV} {st:List AObj} (hst:s.st=st) (hx:qj N s x=c) (hy:qj N s y = .sl sz ys tip)
  (ht:E.P.underlying t=some (.slice T')) (hu:E.P.underlying u=some (.slice T')) (hT:xb E.P T' sz bytes) (hc:TipO b st sz T' xs c) (hb:b≤st.length) (hone:ju (flat ys)=true) (h63:xs.length+ys.length≤maxLen) (hby:(xs.length+ys.length) * bytes≤140737488355328)
  (h:∀ c' st' t1,TipO b st' sz T' (xs++ys) c'→Fr st st' t1→b≤t1→(c = .sl sz xs (some t1)∨st.length≤t1)→AOps E rd N ops rest K (AS.put ⟨s.t,st',s.df⟩ d c')):AOps E rd N ops (⟨d,.call ⟨.builtin .append,#[x,y],#[t,u]⟩,T,p,af,none⟩::rest) K s:=by
 rcases hc with hc | ⟨hxs,o,ver,f,hco⟩
 ·refine qvf hst hx hc hb hy ht hu hT hone h63 hby fun t1 st' g1 g2 g3 g4=>h _ st' t1 (.inl (.inr ⟨t1,rfl,g1,g2⟩)) g3 g2 g4
 ·subst hst
  subst hxs
  refine q6 rfl (qz nofun fun B0 w0 G a w _ hI=>?_)
  have he:=hI.eval_of (hx.trans hco)
  obtain⟨news,k1,k2,k3⟩:=xv (P:=E.P) hI.agree (hI.eval_of hy) (by simpa [ju] using hone)
  have hex:=hT.ex
  obtain⟨i,z,hi,hz,hsz,hbt,hzs⟩:=hex
  generalize hv:a.eval x=v at he
  cases he with
  |os _ _ _ _ blk _ hn hvv hbb=>
   by_cases hm0:ys.length=0
   ·have hy0:ys=[]:=List.eq_nil_of_length_eq_zero hm0
    subst hy0
    have hk1':Src E.P w (a.eval y) 0 i.size []:=by
     have:news=[]:=List.eq_nil_of_length_eq_zero (by simpa using k1.count)
     rw [hsz]
     rw [this] at k1
     exact k1
    refine⟨_,w,G,_,s.st,?_,.refl G,hI.agree,.os o ver f 0 blk 0 hn hvv hbb,h _ s.st s.st.length (.inr ⟨rfl,o,ver,f,rfl⟩) ⟨Nat.le_refl _,fun _ _ _=>rfl⟩ hb (.inr (Nat.le_refl _))⟩
    have:=qbe (ty:=T) ht hu (.inr ⟨_,rfl⟩) hi hk1' (some ⟨blk,f,none⟩) 0 0 (Nat.le_refl _)
    generalize a.eval = ρ at hv this
    simp [execOp,resolve,invoke,builtin,hv,this]
   ·have hle:=G.le_new 0 0 0 false
    have hA:=hI.agree.newTip sz T'
    have hz63:0+ys.length≤maxLen:=by simpa using h63
    obtain⟨v',w',G',e1,e2,e3,e4⟩:=qpf (ty:=T) hA ht hu (.inr ⟨_,rfl⟩) hT (t:=s.st.length) (n:=0) (xs:=[]) (by simp) rfl rfl k1 k2 (fun i a b h1 h2=>(k3 i a b h1 h2).mono hle) hz63 (some ⟨blk,f,none⟩) 0 []
     (run_firstCells_some w.drew sz 0 ⟨blk,f,none⟩ 0 0 [] (by simp) (by simp)) (by omega) (by simp) (by simp [flat]) (by simp) (by simp [flat]) (by rw [Nat.zero_add,nextslicecap_zero (by omega)];have:=hby;simp at this;omega) hm0
    refine⟨v',w',G',_,_,?_,hle.trans e2,e3,e4,h _ _ s.st.length (.inl (.inr ⟨s.st.length,rfl,?_,hb⟩)) ⟨by simp,fun k hk hlt=>?_⟩ hb (.inr (Nat.le_refl _))⟩
    ·generalize a.eval = ρ at e1 hv
     simp [execOp,resolve,invoke,builtin,hv,e1]
    ·simp
    ·rw [List.getElem?_set_ne (Ne.symm hk),List.getElem?_append_left hlt]
end
theorem qbk {α : Type} {g : α→AV} {l:List α} (h:∀ a,ju (g a).cells=true):ju (flat (l.map g))=true:=by
 induction l with
 |nil=>rfl
 |cons a r ih=>
  have h1:=h a
  unfold ju flat at *
  rw [List.map_cons,List.flatMap_cons,List.all_append,h1,ih]
  rfl
theorem qkz {b:Nat} {st:List AObj} {sz:Nat} {T:TypeId} {xs:List AV} {c:AV} (h:TipO b st sz T xs c):∀ G v,Rel G c v→Rel G (.sl sz xs none) v:=by
 rcases h with (⟨rfl,rfl⟩ | ⟨t,rfl,_⟩) | ⟨rfl,o,v,f,rfl⟩
 ·exact fun G v h=>qa1 h
 ·exact fun G v h=>qix h
 ·exact fun G v h=>zbw h
end Go.Av
namespace Go.Av
open Go Go.RowKit
inductive SrcA (st:List AObj) (sz:Nat):AV→Nat→Nat→List AV→Prop
 |sl (ys:List AV) (tip:Option Nat) (hone:ju (flat ys)=true):SrcA st sz (.sl sz ys tip) ys.length ys.length (flat ys)
 |os (o ver off L cap m:Nat) (T:TypeId) (cs:List AV) (ho:st[o]? = some (.cells ver T cs)) (hfit:off+m * sz≤cs.length) (hone:ju ((cs.drop off).take (m * sz))=true):SrcA st sz (.os o ver off L cap) L m ((cs.drop off).take (m * sz))
structure SrcP (P:Program) (w:World) (x:Value) (L m size:Nat) (news:List Value):Prop where
 len:∀ w',(Builtin.lenOf x).run P w' = .ok L w'
 cells:∀ w',Below w.heap.size w w'→(Builtin.firstCells size m x).run P w' = .ok news.toArray w'
 count:news.length=m * size
 one:∀ u∈news,u.oneCell'=true
section
variable {B0 : Nat} {w0 : World} {G : Gh} {st : List AObj} {w : World}
theorem q0t {P:Program} (hA:zf B0 w0 G st w) {sz L m:Nat} {a:AV} {zs:List AV} {x:Value} (h:SrcA st sz a L m zs) (hr:Rel G a x) :
  ∃ news,SrcP P w x L m sz news∧zs.length=m * sz∧∀ (i:Nat) (a:AV) (b:Value),zs[i]? = some a→news[i]? = some b→Rel G a b:=by
 cases h with
 |sl ys tip hone=>
  obtain⟨news,h1,h2,h3⟩:=xv (P:=P) hA hr (by simpa [ju] using hone)
  exact⟨news,⟨h1.len,h1.cells,h1.count,h1.one⟩,zt h2,h3⟩
 |os o ver off _ cap _ T cs ho hfit hone=>
  obtain⟨g0,g1,g2,g3,c,g4,g5,g6⟩:=hA.ob o _ ho
  cases hr with
  |os _ _ _ _ b _ hn hv hb=>
   have hb:=hb g1
   subst hb
   have hget:∀ (j:Nat) (y:Value),((c.toList.drop off).take (m * sz))[j]? = some y→j<m * sz∧c[off+j]? = some y:=fun j y hy=>by
    rw [List.getElem?_take] at hy
    split at hy
    ·rename_i hj
     rw [List.getElem?_drop] at hy
     exact⟨hj,by simpa using hy⟩
    ·simp at hy
   have hnl:((c.toList.drop off).take (m * sz)).length=m * sz:=by
    simp
    omega
   refine⟨(c.toList.drop off).take (m * sz),⟨fun w'=>by simp [Builtin.lenOf],fun w' hw'=>?_,hnl,fun u hu=>?_⟩,by simp;omega,fun i a b h1 h2=>?_⟩
   ·refine run_firstCells_some w' sz m ⟨(G.ob o).blk,off,none⟩ L cap _ hnl fun j y hy=>?_
    obtain⟨hj,hy⟩:=hget j y hy
    have hlt:(G.ob o).blk<w.heap.size:=by
     rcases Nat.lt_or_ge (G.ob o).blk w.heap.size with h'|h'
     ·exact h'
     ·simp [Array.getElem?_eq_none h'] at g4
    have e1:w'.heap[(G.ob o).blk]? = some (.cells c T (0,0)):=by rw [hw'.block _ hlt];exact g4
    rw [Addr.add_lit]
    simp [World.cell?,e1,hy]
   ·obtain⟨j,hj⟩:=List.getElem?_of_mem hu
    obtain⟨h1,h2⟩:=hget j u hj
    have hlc:off+j<cs.length:=by omega
    have hx:cs[off+j]? = some cs[off+j]:=List.getElem?_eq_getElem hlc
    have hz:((cs.drop off).take (m * sz))[j]? = some cs[off+j]:=by rw [List.getElem?_take_of_lt h1,List.getElem?_drop];exact hx
    exact (g6 _ _ u hx h2).one (List.all_eq_true.1 hone _ (List.mem_of_getElem? hz))
   ·obtain⟨h3,h4⟩:=hget i b h2
    rw [List.getElem?_take_of_lt h3,List.getElem?_drop] at h1
    exact g6 _ a b h1 h4
theorem qg9 (hA:zf B0 w0 G st w) {o ver off:Nat} {T:TypeId} {cs zs:List AV} {news:List Value} {c:Array Value} (ho:st[o]? = some (.cells ver T cs)) (g4:w.heap[(G.ob o).blk]? = some (.cells c T (0,0))) (hfit:off+zs.length≤cs.length) (hl:zs.length=news.length)
  (hr:∀ (i:Nat) (a:AV) (b:Value),zs[i]? = some a→news[i]? = some b→Rel G a b):zf B0 w0 G (st.set o (.cells ver T (zu cs off zs))) (w.setRow (G.ob o).blk (c.toList.take off++news++c.toList.drop (off+news.length)).toArray):=by
 obtain⟨_,_,_,_,c',h4,g5,g6⟩:=hA.ob o _ ho
 rw [g4] at h4
 simp only [Option.some.injEq,Obj.cells.injEq,and_true] at h4
 subst h4
 refine hA.setRow ho (by simp [zu];omega) ?_
 have e1:∀ (j:Nat) (a:AV) (b:Value),(cs.take off)[j]? = some a→(c.toList.take off)[j]? = some b→Rel G a b:=fun j a b h1 h2=>by
  rw [List.getElem?_take] at h1 h2
  split at h1
  ·rename_i hj
   rw [if_pos hj] at h2
   exact g6 j a b h1 (by simpa using h2)
  ·simp at h1
 have e2:=yv (G:=G) (cs:=cs.take off) (ds:=zs) (vs:=c.toList.take off) (us:=news) (by simp;omega) e1 hr
 have e3:=yv (G:=G) (cs:=cs.take off++zs) (ds:=cs.drop (off+zs.length)) (vs:=c.toList.take off++news) (us:=c.toList.drop (off+news.length)) (by simp;omega) e2 (fun j a b h1 h2=>by
  rw [List.getElem?_drop] at h1 h2
  rw [hl] at h1
  exact g6 _ a b h1 (by simpa using h2))
 unfold zu
 intro j a b h1 h2
 exact e3 j a b h1 (by simpa using h2)
end
section
variable {E : Env} {rd : Option Nat} {N : Nat} {ops : Array Oper} {K : AS → Prop} {s : AS} {rest : List Oper} {d : Option Tmp} {T : TypeId} {p : String} {af : Array Edge}
theorem qlb {x y:Operand} {t u T':TypeId} {sz bytes o ver n cap m:Nat} {cs zs:List AV} {a:AV} (hx:qj N s x = .os o ver 0 n cap) (hy:qj N s y=a) (ho:s.st[o]? = some (.cells ver T' cs)) (hsrc:SrcA s.st sz a m m zs)
  (ht:E.P.underlying t=some (.slice T')) (hu:E.P.underlying u=some (.slice T')) (hT:xb E.P T' sz bytes) (hroom:n+m≤cap) (hcs:cs.length=cap * sz)
  (h:AOps E rd N ops rest K (AS.put ⟨s.t,s.st.set o (.cells ver T' (zu cs (n * sz) zs)),s.df⟩ d (.os o ver 0 (n+m) cap))):AOps E rd N ops (⟨d,.call ⟨.builtin .append,#[x,y],#[t,u]⟩,T,p,af,none⟩::rest) K s:=by
 refine q6 rfl (qz nofun fun B0 w0 G a0 w _ hI=>?_)
 obtain⟨i,z,hi,hz,rfl,rfl,hzs⟩:=hT.ex
 obtain⟨news,h1,h2,h3⟩:=q0t (P:=E.P) hI.agree hsrc (hI.eval_of hy)
 have hv:=hI.eval_of hx
 generalize hv':a0.eval x=v at hv
 obtain⟨g0,g1,g2,g3,c,g4,g5,g6⟩:=hI.agree.ob o _ ho
 have hmul:n * i.size+m * i.size≤cap * i.size:=by rw [← Nat.add_mul];exact Nat.mul_le_mul_right _ hroom
 cases hv with
 |os _ _ _ _ b _ hn hv hb=>
  have hb:=hb g1
  subst hb
  have hrun:=qh2 (ty:=T) ht hu (.inr ⟨_,rfl⟩) hi ⟨h1.len,h1.cells,h1.count,h1.one⟩ (G.ob o).blk n cap c g4 hroom (by rw [h1.count];omega)
  refine⟨_,_,G,_,_,?_,.refl G,qg9 hI.agree ho g4 (by omega) (by rw [h1.count];exact h2) h3,.os o ver 0 (n+m) _ cap hn hv (fun _=>rfl),h⟩
  generalize a0.eval = ρ at hrun hv' ⊢
  simp [execOp,resolve,invoke,builtin,hv',hrun]
theorem yu {x y:Operand} {t u T':TypeId} {sz bytes o ver off dl dc L m:Nat} {cs zs:List AV} {a:AV} (hx:qj N s x = .os o ver off dl dc) (hy:qj N s y=a) (ho:s.st[o]? = some (.cells ver T' cs)) (hsrc:SrcA s.st sz a L m zs) (hm:Nat.min L dl=m)
  (ht:E.P.underlying t=some (.slice T')) (hT:xb E.P T' sz bytes) (hfit:off+m * sz≤cs.length)
  (h:AOps E rd N ops rest K (AS.put ⟨s.t,s.st.set o (.cells ver T' (zu cs off zs)),s.df⟩ d (Iv (m:Nat)))):AOps E rd N ops (⟨d,.call ⟨.builtin .copy,#[x,y],#[t,u]⟩,T,p,af,none⟩::rest) K s:=by
 refine q6 rfl (qz nofun fun B0 w0 G a0 w _ hI=>?_)
 obtain⟨i,z,hi,hz,rfl,rfl,hzs⟩:=hT.ex
 obtain⟨news,h1,h2,h3⟩:=q0t (P:=E.P) hI.agree hsrc (hI.eval_of hy)
 have hv:=hI.eval_of hx
 generalize hv':a0.eval x=v at hv
 obtain⟨g0,g1,g2,g3,c,g4,g5,g6⟩:=hI.agree.ob o _ ho
 cases hv with
 |os _ _ _ _ b _ hn hv hb=>
  have hb:=hb g1
  subst hb
  have hst:=run_storeCells_at E.P (G.ob o).blk off T' news 0 c w g4 (by rw [h1.count];omega) h1.one
  simp only [Nat.add_zero] at hst
  have hcl:=h1.cells w (Below.refl _ _)
  refine⟨_,_,G,_,_,?_,.refl G,qg9 hI.agree ho g4 (by omega) (by rw [h1.count];exact h2) h3,.v _,h⟩
  have hl:=h1.len w
  generalize a0.eval = ρ at hv' hst hcl hl ⊢
  simp [execOp,resolve,invoke,builtin,hv',Builtin.copy_,run_underlying ht,sizeOf,typeInfo,hi,hl,hm,hcl,hst,goInt]
def q01 (P:Program) (T:TypeId):Bool:=
 match P.info? T with
 |some i=>(match i.zero with
  |some z=>z.cells.toList.all Value.oneCell'
  |none=>false)
 |none=>false
theorem qvi {x:Operand} {t T':TypeId} {sz bytes o ver off n cap:Nat} {cs:List AV} (hx:qj N s x = .os o ver off n cap) (ho:s.st[o]? = some (.cells ver T' cs))
  (ht:E.P.underlying t=some (.slice T')) (hT:xb E.P T' sz bytes) (hz1:q01 E.P T'=true) (hfit:off+n * sz≤cs.length)
  (h:∀ zs:List AV,zs.length=n * sz→AOps E rd N ops rest K (AS.put ⟨s.t,s.st.set o (.cells ver T' (zu cs off zs)),s.df⟩ d (.v undef))):AOps E rd N ops (⟨d,.call ⟨.builtin .clear,#[x],#[t]⟩,T,p,af,none⟩::rest) K s:=by
 refine q6 rfl (qz nofun fun B0 w0 G a0 w _ hI=>?_)
 obtain⟨i,z,hi,hz,rfl,rfl,hzs⟩:=hT.ex
 have hv:=hI.eval_of hx
 generalize hv':a0.eval x=v at hv
 obtain⟨g0,g1,g2,g3,c,g4,g5,g6⟩:=hI.agree.ob o _ ho
 cases hv with
 |os _ _ _ _ b _ hn hv hb=>
  have hb:=hb g1
  subst hb
  by_cases h0:n=0
  ·subst h0
   have hself:s.st.set o (.cells ver T' (zu cs off []))=s.st:=by
    have e:zu cs off []=cs:=by simp [zu]
    rw [e]
    apply List.ext_getElem?
    intro k
    by_cases e:o=k
    ·subst e;rw [List.getElem?_set_self (lt_of_getElem? ho)];exact ho.symm
    ·rw [List.getElem?_set_ne e]
   have hh:=h [] (by simp)
   refine⟨_,_,G,_,_,?_,.refl G,hI.agree,.v _,by rw [hself] at hh;exact hh⟩
   generalize a0.eval = ρ at hv' ⊢
   simp [execOp,resolve,invoke,builtin,hv',Builtin.clear_,run_underlying ht,undef]
  ·have hzl:(Builtin.zeroCells z.cells n).toList.length=n * i.size:=by simp [size_zeroCells,hzs]
   have hz1:∀ u∈(Builtin.zeroCells z.cells n).toList,u.oneCell'=true:=fun u hu=>by
    unfold q01 at hz1
    rw [hi] at hz1
    simp only [hz] at hz1
    refine List.all_eq_true.1 hz1 u ?_
    simp only [Builtin.zeroCells,Array.toList_map,List.mem_map,Array.toList_range,List.mem_range] at hu
    obtain⟨q,hq,rfl⟩:=hu
    have hp:q % z.cells.size<z.cells.size:=Nat.mod_lt _ (by
     rcases Nat.eq_zero_or_pos z.cells.size with h|h
     ·rw [h] at hq;omega
     ·exact h)
    rw [getElem!_pos z.cells _ hp]
    simp
   have hst:=run_storeCells_at E.P (G.ob o).blk off T' (Builtin.zeroCells z.cells n).toList 0 c w g4 (by rw [hzl];omega) hz1
   simp only [Nat.add_zero] at hst
   have hh:=h ((Builtin.zeroCells z.cells n).toList.map AV.v) (by simpa using hzl)
   refine⟨_,_,G,_,_,?_,.refl G,qg9 (news:=(Builtin.zeroCells z.cells n).toList) hI.agree ho g4 (by rw [List.length_map,hzl];exact hfit) (by simp) (fun j a b h1 h2=>?_),.v _,hh⟩
   ·generalize a0.eval = ρ at hv' hst ⊢
    obtain⟨n',rfl⟩:∃ n',n=n'+1:=⟨n - 1,by omega⟩
    simp [execOp,resolve,invoke,builtin,hv',Builtin.clear_,run_underlying ht,zeroValue,typeInfo,hi,hz,hst,undef]
   ·rw [List.getElem?_map,h2] at h1
    simp at h1
    subst h1
    exact .v _
theorem qrg {P:Program} {t e:TypeId} {sz:Nat} {agg:Bool} (hu:P.underlying t=some (.slice e)) (ht:tyOf P e=some (sz,agg)) (a:Option Addr) (len cap:Nat) (lo hi mx:Option Value) (i j m:Nat) (w:World)
  (hlo:match lo with|none=>i=0|some v=>∃ k,v = .int k (i:Int)) (hhi:match hi with|none=>j=len∧mx=none|some v=>∃ k,v = .int k (j:Int)) (hmx:match mx with|none=>m=cap|some v=>∃ k,v = .int k (m:Int)) (h1:i≤j) (h2:j≤m) (h3:m≤cap) :
  (Instr.slice t (.slice a len cap) lo hi mx).run P w = .ok (.slice (if m=i then a else a.map (·.add (i * sz))) (j - i) (m - i)) w:=by
 have hs:=(kq ht w).1
 cases lo with
 |none=>
  simp only at hlo
  subst hlo
  cases hi with
  |none=>
   obtain⟨rfl,rfl⟩:=hhi
   simp only at hmx
   subst hmx
   simp [Instr.slice,run_underlying hu,Instr.sliceBounds,hs]
  |some v=>
   obtain⟨k,rfl⟩:=hhi
   cases mx with
   |none=>
    simp only at hmx
    subst hmx
    simp [Instr.slice,run_underlying hu,Instr.sliceBounds,Instr.sliceBound,asIntOf,hs,h2]
   |some u=>
    obtain⟨k',rfl⟩:=hmx
    simp [Instr.slice,run_underlying hu,Instr.sliceBounds,Instr.sliceBound,asIntOf,hs,h2,h3]
 |some u=>
  obtain⟨k',rfl⟩:=hlo
  cases hi with
  |none=>
   obtain⟨rfl,rfl⟩:=hhi
   simp only at hmx
   subst hmx
   simp [Instr.slice,run_underlying hu,Instr.sliceBounds,Instr.sliceBound,asIntOf,hs,h1]
  |some v=>
   obtain⟨k,rfl⟩:=hhi
   cases mx with
   |none=>
    simp only at hmx
    subst hmx
    simp [Instr.slice,run_underlying hu,Instr.sliceBounds,Instr.sliceBound,asIntOf,hs,h1,h2]
   |some u=>
    obtain⟨k'',rfl⟩:=hmx
    simp [Instr.slice,run_underlying hu,Instr.sliceBounds,Instr.sliceBound,asIntOf,hs,h1,h2,h3]
theorem zv {x:Operand} {t e:TypeId} {lo hi mx:Option Operand} {sz:Nat} {agg:Bool} {o ver off len cap i j m:Nat} (hx:qj N s x = .os o ver off len cap) (hu:E.P.underlying t=some (.slice e)) (ht:tyOf E.P e=some (sz,agg))
  (hlo:match lo with|none=>i=0|some y=>∃ k,qj N s y = .v (.int k (i:Int))) (hhi:match hi with|none=>j=len∧mx=none|some y=>∃ k,qj N s y = .v (.int k (j:Int))) (hmx:match mx with|none=>m=cap|some y=>∃ k,qj N s y = .v (.int k (m:Int))) (h1:i≤j) (h2:j≤m) (h3:m≤cap)
  (h:AOps E rd N ops rest K (s.put d (.os o ver (if m=i then off else off+i * sz) (j - i) (m - i)))):AOps E rd N ops (⟨d,.slice t x lo hi mx,T,p,af,none⟩::rest) K s:=by
 refine q6 rfl (qz nofun fun B0 w0 G a w _ hI=>?_)
 have he:=hI.eval_of hx
 generalize hv:a.eval x=v at he
 cases he with
 |os _ _ _ _ b _ hn hvr hb=>
  have hrun:=qrg hu ht (some ⟨b,off,none⟩) len cap (lo.map a.eval) (hi.map a.eval) (mx.map a.eval) i j m w (by
   cases lo with
   |none=>exact hlo
   |some y=>obtain⟨k,hy⟩:=hlo;exact⟨k,hI.evalv hy⟩) (by
   cases hi with
   |none=>obtain⟨q1,q2⟩:=hhi;subst q2;exact⟨q1,rfl⟩
   |some y=>obtain⟨k,hy⟩:=hhi;exact⟨k,hI.evalv hy⟩) (by
   cases mx with
   |none=>exact hmx
   |some y=>obtain⟨k,hy⟩:=hmx;exact⟨k,hI.evalv hy⟩) h1 h2 h3
  refine⟨.slice (if m=i then some ⟨b,off,none⟩ else (some ⟨b,off,none⟩:Option Addr).map (·.add (i * sz))) (j - i) (m - i),w,G,_,s.st,?_,.refl G,hI.agree,?_,h⟩
  ·generalize a.eval = ρ at hv hrun ⊢
   simp only [execOp,hv]
   simp [Instr.sliceAt,run_underlying hu,hrun]
  ·have hadd:Addr.add ⟨b,off,none⟩ (i * sz)=⟨b,off+i * sz,none⟩:=Addr.add_lit ..
   by_cases hmi:m=i
   ·rw [if_pos hmi,if_pos hmi]
    exact .os o ver off (j - i) b (m - i) hn hvr hb
   ·rw [if_neg hmi,if_neg hmi,Option.map_some,hadd]
    exact .os o ver (off+i * sz) (j - i) b (m - i) hn hvr hb
theorem qha {x y:Operand} {t u T':TypeId} {sz bytes:Nat} {ys:List AV} (hx:∀ (G:Gh) (v:Value),Rel G (qj N s x) v→∃ base,v = .slice base 0 0) (hy:∀ (G:Gh) (v:Value),Rel G (qj N s y) v→Rel G (.sl sz ys none) v)
  (ht:E.P.underlying t=some (.slice T')) (hu:E.P.underlying u=some (.slice T')) (hT:xb E.P T' sz bytes) (hone:ju (flat ys)=true) (h0:ys≠[]) (h63:ys.length≤maxLen) (hb:ys.length * bytes≤140737488355328)
  (h:∀ cap pad,(flat ys++pad).length=(cap+1) * sz→(∀ y∈ys,y.cells.length=sz)→ys.length≤cap+1→cap+1≤maxLen→AOps E rd N ops rest K (AS.put ⟨s.t,s.st++[.cells 0 T' (flat ys++pad)],s.df⟩ d (.os s.st.length 0 0 ys.length (cap+1)))):AOps E rd N ops (⟨d,.call ⟨.builtin .append,#[x,y],#[t,u]⟩,T,p,af,none⟩::rest) K s:=by
 refine q6 rfl (qz nofun fun B0 w0 G a0 w _ hI=>?_)
 obtain⟨i,z,hi,hz,rfl,rfl,hzs⟩:=hT.ex
 obtain⟨news,h1,h2,h3⟩:=xv (P:=E.P) hI.agree (hy _ _ (hI.eval y)) (by simpa [ju] using hone)
 obtain⟨base,hv⟩:=hx _ _ (hI.eval x)
 have hlen:0<ys.length:=List.length_pos_iff.2 h0
 have hold:(Builtin.firstCells i.size 0 (.slice base 0 0)).run E.P w.drew = .ok ([]:List Value).toArray w.drew:=by
  cases base with
  |none=>simp [run_firstCells_none]
  |some a=>exact run_firstCells_some w.drew i.size 0 a 0 0 [] (by simp) (by simp)
 have hrun:=qes (ty:=T) ht hu (.inr ⟨_,rfl⟩) hi hz h1 base 0 0 [] hold (by omega) (by simp only [maxLen] at h63;omega) (by simp only [Nat.zero_add];rw [nextslicecap_zero (by omega)];omega)
 simp only [Nat.zero_add] at hrun
 have hge:=grownCap_ge w ys.length 0 T'
 have hle:=grownCap_le_maxLen w ys.length 0 T' h63
 generalize grownCap w ys.length 0 T'=cap at hrun hge hle
 obtain⟨cap,rfl⟩:∃ c,cap=c+1:=⟨cap - 1,by omega⟩
 generalize hzc:Builtin.zeroCells z.cells (cap+1 - ys.length)=zc at hrun
 have hzl:zc.size=(cap+1 - ys.length) * i.size:=by rw [← hzc,size_zeroCells,hzs]
 have hfy:(flat ys).length=ys.length * i.size:=zt h2
 have hdrew:Below w.heap.size w w.drew:=⟨rfl,rfl,rfl,Nat.le_refl _,fun _ _=>rfl⟩
 have hr:=yv (G:=G) (cs:=flat ys) (ds:=zc.toList.map AV.v) (vs:=news) (us:=zc.toList) (by rw [hfy,h1.count]) h3 (fun j a b h1 h2=>by
  rw [List.getElem?_map,h2] at h1
  simp at h1
  subst h1
  exact .v _)
 have hA:=(hI.agree.fresh hdrew).newCells T' (([]:List Value).toArray++news.toArray++zc) (flat ys++zc.toList.map AV.v) (by simp [hfy,h1.count]) (fun j a b q1 q2=>hr j a b q1 (by rw [← q2];simp [← Array.getElem?_toList]))
 have hn:=hI.agree.n
 refine⟨_,_,_,_,_,?_,G.le_new _ _ _ _,hA,.os _ _ _ _ _ _ (by simp [Gh.new,hn]) (Nat.zero_le _) (fun _=>by simp [Gh.new,hn];rfl),h cap (zc.toList.map AV.v) ?_ h2 hge hle⟩
 ·generalize a0.eval = ρ at hrun hv ⊢
  simp [execOp,resolve,invoke,builtin,hv,hrun]
 ·have h1:zc.toList.length=(cap+1 - ys.length) * i.size:=by rw [← hzl];simp
  rw [List.length_append,hfy,List.length_map,h1,← Nat.add_mul]
  congr 1
  omega
theorem qub {x y:Operand} {t u T':TypeId} {sz bytes o:Nat} {xs ys:List AV} {a:AV} {ob:AObj} (hx:qj N s x=a) (hy:∀ (G:Gh) (v:Value),Rel G (qj N s y) v→Rel G (.sl sz ys none) v) (hV:Vec sz T' o xs a ob) (ho:s.st[o]? = some ob)
  (ht:E.P.underlying t=some (.slice T')) (hu:E.P.underlying u=some (.slice T')) (hT:xb E.P T' sz bytes) (hone:ju (flat ys)=true) (h63:xs.length+ys.length≤maxLen) (hb:(xs.length+ys.length) * bytes≤140737488355328)
  (h:∀ a' ob',Vec sz T' o (xs++ys) a' ob'→AOps E rd N ops rest K (AS.put ⟨s.t,s.st.set o ob',s.df⟩ d a')):AOps E rd N ops (⟨d,.call ⟨.builtin .append,#[x,y],#[t,u]⟩,T,p,af,none⟩::rest) K s:=by
 refine q6 rfl (qz nofun fun B0 w0 G a0 w _ hI=>?_)
 obtain⟨news,h1,h2,h3⟩:=xv (P:=E.P) hI.agree (hy _ _ (hI.eval y)) (by simpa [ju] using hone)
 obtain⟨v',w',G',a',ob',e1,e2,e3,e4,e5⟩:=qla (ty:=T) hI.agree ht hu (.inr ⟨_,rfl⟩) hT hV ho (hI.eval_of hx) h1 h2 h3 h63 hb
 refine⟨v',w',G',_,_,?_,e2,e3,e4,h a' ob' e5⟩
 generalize a0.eval = ρ at e1
 simp [execOp,resolve,invoke,builtin,e1]
theorem qvd {x y:Operand} {t u T':TypeId} {sz bytes:Nat} {c:AV} (hx:qj N s x=c) (hc:∀ G v,Rel G c v→∃ b n cp,v = .slice b n cp∧n≤cp) (hy:∀ (G:Gh) (v:Value),Rel G (qj N s y) v→Rel G (.sl sz [] none) v)
  (ht:E.P.underlying t=some (.slice T')) (hu:E.P.underlying u=some (.slice T')) (hT:xb E.P T' sz bytes) (h:AOps E rd N ops rest K (s.put d c)):AOps E rd N ops (⟨d,.call ⟨.builtin .append,#[x,y],#[t,u]⟩,T,p,af,none⟩::rest) K s:=by
 refine q6 rfl (qz nofun fun B0 w0 G a0 w _ hI=>?_)
 obtain⟨i,z,hi,hz,rfl,rfl,hzs⟩:=hT.ex
 obtain⟨news,h1,h2,h3⟩:=xv (P:=E.P) hI.agree (hy _ _ (hI.eval y)) (by simp [flat])
 have hn0:news=[]:=List.eq_nil_of_length_eq_zero (by simpa using h1.count)
 subst hn0
 have hv:=hI.eval_of hx
 obtain⟨b,n,cp,hv2,hle⟩:=hc _ _ hv
 have hrun:=qbe (ty:=T) ht hu (.inr ⟨_,rfl⟩) hi h1 b n cp hle
 refine⟨_,w,G,c,s.st,?_,.refl G,hI.agree,hv,h⟩
 rw [hv2]
 generalize a0.eval = ρ at hrun hv2
 simp [execOp,resolve,invoke,builtin,hv2,hrun]
end
end Go.Av
namespace Go.Av
open Go Go.RowKit
theorem qo0 {P:Program} (w:World) (tS tR e:TypeId) (ht:P.underlying tS=some (.slice e)) (size:Nat) (hz:∀ w,(Go.sizeOf e).run P w = .ok size w)
  (a b:Addr) (la ca lb cb:Nat) (hne:a.block≠b.block) (tA tB:TypeId) (kA kB:Nat)
  (hsa:w.shape? a.block=some (tA,kA)) (hsb:w.shape? b.block=some (tB,kB)) (hkA:kA≠0)
  (hfb:w.frozen? b=false) (hfe:w.frozen? { block:=b.block,off:=kB }=false) :
  (Extern.SlicesOverlaps.overlaps #[tS,tS] #[tR] #[.slice (some a) la ca,.slice (some b) lb cb]).run P w = .ok (.bool false) w:=by
 have hnb:(a.block != b.block)=true:=by simpa using hne
 have hnb':(a.block == b.block)=false:=by simpa using hne
 change Sem.run P (α:=Value) (do
  let some t := (#[tS, tS] : Array TypeId)[0]? | stuck "slices.overlaps: no parameter types"
  let .slice elem ← underlying t | stuck "slices.overlaps: slice type expected"
  let size ← sizeOf elem
  match (some a:Option Addr),(some b:Option Addr) with
  |some a,some b=>
   if la=0∨lb=0∨size=0 then pure (Value.bool false)
   else if a.block != b.block && (← frozen a) && (← frozen b) then unsupported .addressObserved
   else do
    if a.block != b.block then do
     noView a;noView b
     if ← mayBeOne a b then return Value.bool ((← choose (.extern "sameAddr.stringBytes" 2)) == 1)
    pure (Value.bool (a.block == b.block && a.off<b.off+lb * size && b.off<a.off+la * size))
  | _,_=>pure (Value.bool false)) w=_
 by_cases h0:la=0∨lb=0∨size=0
 ·simp [run_underlying ht,hz,h0]
 ·cases kA with
  |zero=>exact absurd rfl hkA
  |succ kA=>
   cases hA:w.frozen? a <;> cases hA2:w.frozen? { block:=a.block,off:=kA+1 } <;>
    simp [run_underlying ht,hz,h0,hnb,hnb',frozen,noView,viewAt,mayBeOne,stringish,shape,Sem.run,hsa,hsb,hfb,hfe,hA,hA2]
section
variable {E : Env} {rd : Option Nat} {N : Nat} {ops : Array Oper} {K : AS → Prop} {s : AS} {rest : List Oper} {d : Option Tmp} {T : TypeId} {p : String} {af : Array Edge}
theorem qpi {x:Operand} {t0 e:TypeId} {ts:Array TypeId} {o ver off len cap:Nat} (hx:qj N s x = .os o ver off len cap) (ht:ts[0]? = some t0) (hu:E.P.underlying t0=some (.slice e))
  (h:AOps E rd N ops rest K (s.put d (Iv cap))):AOps E rd N ops (⟨d,.call ⟨.builtin .cap,#[x],ts⟩,T,p,af,none⟩::rest) K s:=by
 refine q6 rfl (qz nofun fun B0 w0 G a w _ hI=>?_)
 have he:=hI.eval_of hx
 generalize hv:a.eval x=v at he
 cases he with
 |os _ _ _ _ b _ hn hvr hb=>
  refine⟨_,w,G,_,s.st,?_,.refl G,hI.agree,.v _,h⟩
  generalize a.eval = ρ at hv ⊢
  simp [execOp,resolve,invoke,builtin,hv,Builtin.cap_,ht,run_underlying hu,goInt]
theorem qn7 {x y:Operand} {t u T':TypeId} {kn:IntKind} {sz bytes o ver n cap k:Nat} {cs:List AV} (hx:qj N s x = .os o ver 0 n cap) (hy:qj N s y=Iv (k:Nat)) (ho:s.st[o]? = some (.cells ver T' cs))
  (ht:E.P.underlying t=some (.slice T')) (hu:E.P.underlying u=some (.int kn)) (hT:xb E.P T' sz bytes) (hcap:cap<n+k) (hk:0<k) (hsz:0<sz) (hfit:n * sz≤cs.length) (h63:n+k≤maxLen) (hb:(n+k) * bytes≤140737488355328)
  (h:∀ cap' (zs:List AV),zs.length=(cap' - n) * sz→n+k≤cap'→cap'≤maxLen→AOps E rd N ops rest K (AS.put ⟨s.t,s.st++[.cells 0 T' (cs.take (n * sz)++zs)],s.df⟩ d (.os s.st.length 0 0 (n+k) cap'))):AOps E rd N ops (⟨d,.call ⟨.builtin .append,#[x,y],#[t,u]⟩,T,p,af,none⟩::rest) K s:=by
 refine q6 rfl (qz nofun fun B0 w0 G a0 w _ hI=>?_)
 obtain⟨i,z,hi,hz,rfl,rfl,hzs⟩:=hT.ex
 have hyv:=hI.evalv hy
 have hv:=hI.eval_of hx
 generalize hv':a0.eval x=v at hv
 obtain⟨g0,g1,g2,g3,c,g4,g5,g6⟩:=hI.agree.ob o _ ho
 cases hv with
 |os _ _ _ _ b _ hn hv hbk=>
  have hbk:=hbk g1
  subst hbk
  have hold:(Builtin.firstCells i.size n (.slice (some ⟨(G.ob o).blk,0,none⟩) n cap)).run E.P w.drew = .ok (c.toList.take (n * i.size)).toArray w.drew:=by
   refine run_firstCells_some w.drew i.size n ⟨(G.ob o).blk,0,none⟩ n cap _ (by simp;omega) fun j y hy=>?_
   have e1':w.drew.heap[(G.ob o).blk]? = some (.cells c T' (0,0)):=g4
   rw [Addr.add_lit]
   rw [List.getElem?_take] at hy
   split at hy
   ·simp only [Array.getElem?_toList] at hy
    simp [World.cell?,e1',hy]
   ·simp at hy
  have hkb:k * i.bytes≤(n+k) * i.bytes:=Nat.mul_le_mul_right _ (by omega)
  have hrun:=Lib.run_append_grow_zeros w t u T T' i z .i64 kn ht hu hi hz (some ⟨(G.ob o).blk,0,none⟩) n cap _ hold k hk hsz hcap (by simp only [maxLen] at h63;omega) (by omega) (growslice_fits (by omega) hb)
  have hge:=grownCap_ge w (n+k) cap T'
  have hle:=grownCap_le_maxLen w (n+k) cap T' h63
  generalize grownCap w (n+k) cap T'=cap' at hrun hge hle
  have hzl:(Builtin.zeroCells z.cells k).size=k * i.size:=by rw [size_zeroCells,hzs]
  have hzl2:(Builtin.zeroCells z.cells (cap' - (n+k))).size=(cap' - (n+k)) * i.size:=by rw [size_zeroCells,hzs]
  generalize Builtin.zeroCells z.cells k=zc at hrun hzl
  generalize Builtin.zeroCells z.cells (cap' - (n+k))=zd at hrun hzl2
  have hdrew:Below w.heap.size w w.drew:=⟨rfl,rfl,rfl,Nat.le_refl _,fun _ _=>rfl⟩
  have e1:∀ (j:Nat) (a:AV) (b:Value),(cs.take (n * i.size))[j]? = some a→(c.toList.take (n * i.size))[j]? = some b→Rel G a b:=fun j a b h1 h2=>by
   rw [List.getElem?_take] at h1 h2
   split at h1
   ·rename_i hj
    rw [if_pos hj] at h2
    exact g6 j a b h1 (by simpa using h2)
   ·simp at h1
  have hr:=yv (G:=G) (cs:=cs.take (n * i.size)) (ds:=(zc.toList++zd.toList).map AV.v) (vs:=c.toList.take (n * i.size)) (us:=zc.toList++zd.toList) (by simp;omega) e1 (fun j a b h1 h2=>by
   rw [List.getElem?_map,h2] at h1
   simp at h1
   subst h1
   exact .v _)
  have hA:=(hI.agree.fresh hdrew).newCells T' ((c.toList.take (n * i.size)).toArray++zc++zd) (cs.take (n * i.size)++(zc.toList++zd.toList).map AV.v) (by simp;omega) (fun j a b q1 q2=>hr j a b q1 (by rw [← q2];simp [← Array.getElem?_toList]))
  have hn:=hI.agree.n
  refine⟨_,_,_,_,_,?_,G.le_new _ _ _ _,hA,.os _ _ _ _ _ _ (by simp [Gh.new,hn]) (Nat.zero_le _) (fun _=>by simp [Gh.new,hn];rfl),h cap' _ ?_ hge hle⟩
  ·generalize a0.eval = ρ at hrun hv' hyv ⊢
   simp [execOp,resolve,invoke,builtin,hv',hyv,hrun]
  ·have h1:zc.toList.length=k * i.size:=by rw [← hzl];simp
   have h2:zd.toList.length=(cap' - (n+k)) * i.size:=by rw [← hzl2];simp
   rw [List.length_map,List.length_append,h1,h2,← Nat.add_mul]
   congr 1
   omega
theorem qud {f:FuncId} {x y:Operand} {ts:Array TypeId} {T':TypeId} {sz o ver off n c:Nat} {xs cs:List AV} {tip:Option Nat} (hx:qj N s x = .sl sz xs tip) (hy:qj N s y = .os o ver off n c) (ho:s.st[o]? = some (.cells ver T' cs)) (hxs:flat xs≠[])
  (hrun:∀ (w:World) (a b:Addr) (la ca lb cb:Nat) (tA tB:TypeId) (kA kB:Nat),a.block≠b.block→w.shape? a.block=some (tA,kA)→w.shape? b.block=some (tB,kB)→kA≠0→w.frozen? b=false→w.frozen? { block:=b.block,off:=kB }=false→(callFunc f #[.slice (some a) la ca,.slice (some b) lb cb]).run E.P w = .ok (.value (.bool false)) w)
  (h:AOps E rd N ops rest K (s.put d (Bv false))):AOps E rd N ops (⟨d,.call ⟨.value (.func f),#[x,y],ts⟩,T,p,af,none⟩::rest) K s:=by
 refine q6 rfl (qz nofun fun B0 w0 G a w _ hI=>?_)
 have h1:=hI.eval_of hx
 have h2:=hI.eval_of hy
 generalize hvx:a.eval x=v at h1
 generalize hvy:a.eval y=u at h2
 obtain⟨g0,g1,g2,g3,cc,g4,g5,g6⟩:=hI.agree.ob o _ ho
 cases h1 with
 |sl0=>exact absurd rfl hxs
 |sl _ _ _ b off2 cap pub hp hw hlen hr hto hcap0=>
  cases h2 with
  |os _ _ _ _ b2 _ hn hv hb=>
   have hb:=hb g1
   subst hb
   obtain⟨c2,T2,fz,q1,q2⟩:=hI.agree.pub b pub hp
   have hne:b≠(G.ob o).blk:=fun e=>by rw [e,g3] at hp;simp at hp
   have hc2:c2.size≠0:=fun e=>by
    have h0:0<(flat xs).length:=List.length_pos_iff.2 hxs
    have h3:pub[off2]? = some pub[off2]:=List.getElem?_eq_getElem (by omega)
    have:=q2 off2 _ h3
    rw [Array.getElem?_eq_none (by omega)] at this
    simp at this
   have hq:=hrun w ⟨b,off2,none⟩ ⟨(G.ob o).blk,off,none⟩ xs.length cap n c T2 T' c2.size cc.size hne (by simp [World.shape?,q1]) (by simp [World.shape?,g4]) hc2 (by simp [World.frozen?,g4]) (by simp [World.frozen?,g4])
   refine⟨_,w,G,_,s.st,?_,.refl G,hI.agree,.v _,h⟩
   have he:a.eval (.func f) = .func (.func f) #[] #[]:=rfl
   generalize a.eval = ρ at he hvx hvy ⊢
   simp [execOp,resolve,Deferred.ofValue,he,invoke,hvx,hvy,hq]
theorem qvk {x y:Operand} {t e:TypeId} {sz:Nat} {agg:Bool} {c:AV} (hx:qj N s x=c) (hc:∀ (G:Gh) (v:Value),Rel G c v→∃ base,v = .slice base 0 0) (hu:E.P.underlying t=some (.slice e)) (ht:tyOf E.P e=some (sz,agg)) (hy:∃ k,qj N s y = .v (.int k 0))
  (h:AOps E rd N ops rest K (s.put d c)):AOps E rd N ops (⟨d,.slice t x (some y) none none,T,p,af,none⟩::rest) K s:=by
 refine q6 rfl (qz nofun fun B0 w0 G a w _ hI=>?_)
 have he:=hI.eval_of hx
 obtain⟨base,hv⟩:=hc _ _ he
 have hrun:=qrg hu ht base 0 0 (some (a.eval y)) none none 0 0 0 w (by obtain⟨k,hy⟩:=hy;exact⟨k,hI.evalv hy⟩) ⟨rfl,rfl⟩ rfl (Nat.le_refl _) (Nat.le_refl _) (Nat.le_refl _)
 refine⟨.slice base 0 0,w,G,c,s.st,?_,.refl G,hI.agree,by rw [← hv];exact he,h⟩
 generalize a.eval = ρ at hv hrun ⊢
 simp only [execOp,hv]
 simp [Instr.sliceAt,run_underlying hu,hrun]
theorem qpn {l:List Oper} (L:List (Nat×AV)) (st':List AObj) (df':List Nat) (h:HasL s.t L) (hst:s.st=st') (hdf:s.df=df') (k:∀ t,AOps E rd N ops l K ⟨puts t L,st',df'⟩):AOps E rd N ops l K s:=by
 have:=k s.t
 rw [qg7 h,← hst,← hdf] at this
 exact this
end
end Go.Av
namespace Go.Av
open Go Go.RowKit
def qd3 (o:Oper):Bool:=match o.op with
 | .defer _=>false
 | _=>true
theorem qqx {o:Oper} (h:qd3 o=true):∀ c,o.op≠.defer c:=fun c e=>by
 unfold qd3 at h
 rw [e] at h
 simp at h
theorem q6u {P:Program} {ops:Array Oper} {Q:Exit→Act→World→Prop} {l i:Nat} {K:Act→World→Prop} {a:Act} {w:World} (hnd:∀ o,ops[i]? = some o→qd3 o=true) (h:wpOpIn (fw none) 0 P ops Q i K a w):wpOpIn (fw (some l)) 0 P ops Q i K a w:=by
 unfold wpOpIn at *
 cases ho:ops[i]? with
 |none=>simp only [ho] at h ⊢;exact h
 |some o=>
  simp only [ho] at h ⊢
  split
  ·rename_i hw
   rw [if_pos hw] at h
   unfold Oper.wpIn at *
   rw [qdr (rd:=none) (qqx (hnd o ho))] at h
   rw [qdr (rd:=some l) (qqx (hnd o ho))]
   exact h
  ·rename_i hw
   rw [if_neg hw] at h
   exact h
theorem qrr {P:Program} {ops:Array Oper} {Q:Exit→Act→World→Prop} {l:Nat} {md:Region.Mode} (hnd:ops.all qd3=true):∀ (fuel:Nat) (listed:Array Bool) (a:Act) (w:World),wpAnyIn (fw none) 0 P md ops Q fuel listed a w→wpAnyIn (fw (some l)) 0 P md ops Q fuel listed a w
 | 0,_,_,_,h=>h
 |fuel+1,listed,a,w,h=>⟨h.1,fun i hi=>q6u (fun o ho=>by
   rw [Array.all_eq_true] at hnd
   obtain⟨h1,h2⟩:=Array.getElem?_eq_some_iff.1 ho
   rw [← h2]
   exact hnd i h1) (wpOpIn_mono (fun a w=>qrr hnd fuel _ a w) (h.2 i hi))⟩
theorem q1g {E:Env} {rd:Option Nat} {N:Nat} {ops:Array Oper} {s:AS} {id:Nat} {Q:Exit→AS→Prop} {n:Nat} (hm:E.P.follows .mixedOrders=true) (hd:ops.all qd3=true) (hn:ops.size=n) (h:AZ E N ops n (Array.replicate n false) (Q .normal) s):AWp E rd N (.region id ops true) Q s:=by
 cases rd with
 |none=>exact qif hm hn h
 |some l=>
  subst hn
  refine⟨fun B0 w0 G a w hL hI=>?_⟩
  have hBl:Below w.heap.size w { w with drawn:=w.drawn+1 }:=⟨rfl,rfl,rfl,Nat.le_refl _,fun _ _=>rfl⟩
  have hI2:Inv B0 w0 N G s a { w with drawn:=w.drawn+1 }:=⟨hI.agree.fresh hBl,hI.defers,hI.size,hI.tmps⟩
  have:=h.run B0 w0 G a _ hL hI2 (fun a' w'=>∃ (G':Gh) (s':AS),G.le G'∧Inv B0 w0 N G' s' a' w'∧Q .normal s') fun G' s' a' w' hG hI' hk=>⟨G',s',hG,hI',hk⟩
  refine wpIn_mono (wpIn_region_any hm (qrr hd _ _ _ _ this)) fun e a' w' hq=>?_
  cases e with
  |normal=>exact hq
  | _=>exact hq.elim
def qcd (o:Oper):List Nat:=(o.after.toList.filter fun e=>Region.binds .any e).map (·.on)
def addL (L:Nat→Bool) (i:Nat):Nat→Bool:=fun k=>Nat.beq k i ||L k
def qfr:Nat→List Oper→Bool
 | _,[]=>true
 |i,o::r=>(qcd o).all (fun j=>Nat.blt j i) && qfr (i+1) r
def qll (E:Env) (N:Nat) (ops:Array Oper) (J:(Nat→Bool)→AS→Prop):Nat→List Oper→Prop
 | _,[]=>True
 |i,o::r=>(∀ L s,L i=false→(∀ j,(qcd o).contains j=true→L j=true)→J L s→AOps E none N ops [o] (J (addL L i)) s)∧qll E N ops J (i+1) r
theorem qrj {E:Env} {N:Nat} {ops:Array Oper} {J:(Nat→Bool)→AS→Prop}:∀ {l:List Oper} {i0 k:Nat} {o:Oper},qll E N ops J i0 l→l[k]? = some o →
  ∀ L s,L (i0+k)=false→(∀ j,(qcd o).contains j=true→L j=true)→J L s→AOps E none N ops [o] (J (addL L (i0+k))) s
 | [],_,_,_,_,h=>by simp at h
 |o'::r,i0,0,o,hs,h=>by
  simp only [List.getElem?_cons_zero,Option.some.injEq] at h
  subst h
  exact hs.1
 |o'::r,i0,k+1,o,hs,h=>by
  have:=qrj hs.2 (by simpa using h)
  rw [show i0+1+k=i0+(k+1) by omega] at this
  exact this
theorem qqa:∀ {l:List Oper} {i0 k:Nat} {o:Oper},qfr i0 l=true→l[k]? = some o→∀ j∈qcd o,j<i0+k
 | [],_,_,_,_,h=>by simp at h
 |o'::r,i0,0,o,hs,h=>by
  simp only [List.getElem?_cons_zero,Option.some.injEq] at h
  subst h
  simp only [qfr,Bool.and_eq_true] at hs
  intro j hj
  have:=List.all_eq_true.1 hs.1 j hj
  simpa [Nat.blt_eq] using this
 |o'::r,i0,k+1,o,hs,h=>by
  simp only [qfr,Bool.and_eq_true] at hs
  have:=qqa hs.2 (show r[k]? = some o by simpa using h)
  intro j hj
  have:=this j hj
  omega
def lof (listed:Array Bool):Nat→Bool:=fun k=>listed.getD k false
theorem zbl {listed:Array Bool} {i:Nat} (hi:i<listed.size):lof (listed.setIfInBounds i true)=addL (lof listed) i:=by
 funext k
 unfold lof addL
 by_cases h:k=i
 ·subst h
  simp [Array.getD,hi]
 ·have hb:Nat.beq k i=false:=jx h
  rw [hb,Bool.false_or]
  simp only [Array.getD_eq_getD_getElem?,Array.getElem?_setIfInBounds]
  rw [if_neg (fun e=>h e.symm)]
theorem qs2:∀ {l:List Bool} {i:Nat},l[i]? = some false→(l.set i true).count false+1=l.count false
 | [],_,h=>by simp at h
 |b::l,0,h=>by
  simp only [List.getElem?_cons_zero,Option.some.injEq] at h
  subst h
  simp
 |b::l,i+1,h=>by
  have:=qs2 (l:=l) (i:=i) (by simpa using h)
  rw [List.set_cons_succ,List.count_cons,List.count_cons]
  omega
theorem qmi {l:List Oper} {listed:Array Bool} {i:Nat}:i∈Region.ready .any l.toArray listed↔listed.getD i true=false∧∃ o,l[i]? = some o∧∀ j∈qcd o,lof listed j=true:=by
 unfold Region.ready
 simp only [List.mem_filter,List.mem_range,Bool.and_eq_true,Bool.not_eq_true',List.size_toArray,List.getElem?_toArray]
 constructor
 ·rintro⟨h1,h2,h3⟩
  refine⟨h2,l[i],List.getElem?_eq_getElem h1,fun j hj=>?_⟩
  rw [List.getElem?_eq_getElem h1] at h3
  simp only [Option.map_some,Option.getD_some] at h3
  unfold qcd at hj
  obtain⟨e,he,rfl⟩:=List.mem_map.1 hj
  obtain⟨he1,he2⟩:=List.mem_filter.1 he
  have:=Array.all_eq_true'.1 h3 e (by simpa using he1)
  rw [he2] at this
  simpa [lof] using this
 ·rintro⟨h2,o,ho,h3⟩
  refine⟨lt_of_getElem? ho,h2,?_⟩
  rw [ho]
  simp only [Option.map_some,Option.getD_some]
  rw [Array.all_eq_true']
  intro e he
  cases hb:Region.binds .any e with
  |false=>rfl
  |true=>
   have:=h3 e.on (by
    unfold qcd
    exact List.mem_map.2 ⟨e,List.mem_filter.2 ⟨by simpa using he,hb⟩,rfl⟩)
   simpa [lof] using this
theorem qu9 {P:Nat→Prop}:∀ {l:List Nat},(∀ i∈l,P i)→qut P l
 | [],_=>trivial
 |i::r,h=>⟨h i (by simp),qu9 fun j hj=>h j (by simp [hj])⟩
theorem AOps.mono' {E:Env} {rd:Option Nat} {N:Nat} {ops:Array Oper} {K K':AS→Prop} {s:AS} {l:List Oper} (h:AOps E rd N ops l K' s) (hk:∀ s,K' s→K s):AOps E rd N ops l K s:=
 ⟨fun B0 w0 G a w hL hI Q hQ=>h.run B0 w0 G a w hL hI Q fun G' s' a' w' hG hI' hK=>hQ G' s' a' w' hG hI' (hk _ hK)⟩
theorem az_J {E:Env} {N:Nat} {l:List Oper} {J:(Nat→Bool)→AS→Prop} {K:AS→Prop} (hd:qfr 0 l=true) (hs:qll E N l.toArray J 0 l) (hend:∀ L s,(∀ i,i<l.length→L i=true)→J L s→K s) :
  ∀ (fuel:Nat) (listed:Array Bool) (s:AS),listed.size=l.length→listed.toList.count false≤fuel→J (lof listed) s→AZ E N l.toArray fuel listed K s:=by
 intro fuel
 induction fuel with
 |zero=>
  intro listed s hsz hc hJ
  have hall:∀ i,i<l.length→lof listed i=true:=fun i hi=>by
   have h0:listed.toList.count false=0:=by omega
   have hi':i<listed.size:=by omega
   have hlo:lof listed i=listed[i]:=by simp [lof,hi']
   rw [hlo]
   cases hb:listed[i] with
   |true=>rfl
   |false=>exact absurd (by rw [← hb];simp) (List.count_eq_zero.1 h0)
  have hr:Region.ready .any l.toArray listed=[]:=by
   rw [List.eq_nil_iff_forall_not_mem]
   intro i hi
   obtain⟨h1,o,ho,_⟩:=qmi.1 hi
   have hi':=lt_of_getElem? ho
   have:=hall i hi'
   unfold lof at this
   have hi2:i<listed.size:=by omega
   simp only [Array.getD,hi2,dite_true] at this h1
   rw [this] at h1
   simp at h1
  exact qb5 hr (hend _ s hall hJ)
 |succ fuel ih=>
  intro listed s hsz hc hJ
  by_cases hr:Region.ready .any l.toArray listed=[]
  ·refine qb5 hr (hend _ s (fun i=>?_) hJ)
   induction i using Nat.strongRecOn with
   | _ i ihi=>
    intro hi
    cases hb:lof listed i with
    |true=>rfl
    |false=>
     exfalso
     have hm:i∈Region.ready .any l.toArray listed:=by
      refine qmi.2 ⟨?_,l[i],List.getElem?_eq_getElem hi,fun j hj=>?_⟩
      ·have hi2:i<listed.size:=by omega
       unfold lof at hb
       simp only [Array.getD,hi2,dite_true] at hb ⊢
       exact hb
      ·have:=qqa hd (List.getElem?_eq_getElem hi) j hj
       exact ihi j (by omega) (by omega)
     rw [hr] at hm
     simp at hm
  ·refine wd _ rfl ?_ (qu9 fun i hi=>?_)
   ·cases h:Region.ready .any l.toArray listed with
    |nil=>exact absurd h hr
    |cons a r=>rfl
   ·obtain⟨h1,o,ho,h3⟩:=qmi.1 hi
    have hil:=lt_of_getElem? ho
    have hi2:i<listed.size:=by omega
    refine⟨o,by simpa using ho,?_⟩
    have hl:lof listed i=false:=by
     unfold lof
     simp only [Array.getD,hi2,dite_true] at h1 ⊢
     exact h1
    have:=qrj hs ho (lof listed) s (by rw [Nat.zero_add];exact hl) (fun j hj=>h3 j (by simpa using hj)) hJ
    rw [Nat.zero_add] at this
    refine this.mono' fun s' hJ'=>ih _ s' (by simpa using hsz) ?_ (by rw [zbl hi2];exact hJ')
    have hg:listed.toList[i]? = some false:=by
     have:listed[i]=false:=by
      simp only [Array.getD,hi2,dite_true] at h1
      exact h1
     simp [hi2,this]
    have:=qs2 hg
    rw [Array.toList_setIfInBounds]
    omega
theorem q3u {E:Env} {rd:Option Nat} {N:Nat} {s:AS} {id:Nat} {l:List Oper} {Q:Exit→AS→Prop} (hm:E.P.follows .mixedOrders=true) (hnd:l.toArray.all qd3=true) (hd:qfr 0 l=true) (J:(Nat→Bool)→AS→Prop)
  (h0:J (fun _=>false) s) (hend:∀ L s,(∀ i,i<l.length→L i=true)→J L s→Q .normal s) (hs:qll E N l.toArray J 0 l):AWp E rd N (.region id l.toArray true) Q s:=by
 refine q1g hm hnd (n:=l.length) (by simp) (az_J hd hs hend _ _ _ (by simp) ?_ ?_)
 ·simp only [Array.toList_replicate,List.count_replicate]
  split <;> omega
 ·have:lof (Array.replicate l.length false)=fun _=>false:=by
   funext k
   unfold lof
   simp only [Array.getD_eq_getD_getElem?,Array.getElem?_replicate]
   split <;> rfl
  rw [this]
  exact h0
inductive SV where
 |a (x:AV)
 |i (n:Int)
 |s (l:List UInt8)
 |tt
 |ff
 |b (c:Bool)
 |p (q:Prop) (h:Decidable q)
 |bx (k off:Nat)
 |tp (k:Nat)
 |ag (cs:List SV)
 |tu (cs:List SV)
 |fn (f:Fn) (xs ys:List SV)
 |ifc (t:TypeId) (x:SV)
def bxAt:AV→Nat→AV
 | .bx o v _,off=>.bx o v off
 | .os o v _ _ _,off=>.bx o v off
 | _,off=>.bx 0 0 off
def tpAt (x:AV):AV:=bif x.one then x else Bv false
mutual
def SV.ev (ρ : Nat→AV):SV→AV
 | .a x=>x
 | .i n=>Iv n
 | .s l=>Sv l
 | .tt=>Bv true
 | .ff=>Bv false
 | .b c=>Bv c
 | .p q h=>Bv (@decide q h)
 | .bx k off=>bxAt (ρ k) off
 | .tp k=>tpAt (ρ k)
 | .ag cs=>.ag (SV.evs ρ cs)
 | .tu cs=>.tu (SV.evs ρ cs)
 | .fn f xs ys=>.fn f (SV.evs ρ xs) (SV.evs ρ ys)
 | .ifc t x=>.ifc t (SV.ev ρ x)
def SV.evs (ρ : Nat→AV):List SV→List AV
 | []=>[]
 |x::r=>SV.ev ρ x::SV.evs ρ r
end
mutual
def SV.all (f:Nat→Bool):SV→Bool
 | .bx k _=>f k
 | .tp k=>f k
 | .ag cs=>SV.alls f cs
 | .tu cs=>SV.alls f cs
 | .fn _ xs ys=>SV.alls f xs && SV.alls f ys
 | .ifc _ x=>SV.all f x
 | _=>true
def SV.alls (f:Nat→Bool):List SV→Bool
 | []=>true
 |x::r=>SV.all f x && SV.alls f r
end
theorem v8 (ρ : Nat→AV):∀ l:List SV,SV.evs ρ l=l.map (SV.ev ρ)
 | []=>rfl
 |x::r=>by rw [SV.evs,v8 ρ r];rfl
mutual
theorem qbp {f:Nat→Bool} {ρ ρ':Nat→AV} (h:∀ k,f k=true→ρ' k = ρ k):∀ v:SV,v.all f=true→v.ev ρ'=v.ev ρ
 | .a _,_=>rfl
 | .i _,_=>rfl
 | .s _,_=>rfl
 | .tt,_=>rfl
 | .ff,_=>rfl
 | .b _,_=>rfl
 | .p _ _,_=>rfl
 | .bx k off,hv=>by simp only [SV.all] at hv;simp only [SV.ev,h k hv]
 | .tp k,hv=>by simp only [SV.all] at hv;simp only [SV.ev,h k hv]
 | .ag cs,hv=>by simp only [SV.all] at hv;simp only [SV.ev,qbi h cs hv]
 | .tu cs,hv=>by simp only [SV.all] at hv;simp only [SV.ev,qbi h cs hv]
 | .fn f xs ys,hv=>by simp only [SV.all,Bool.and_eq_true] at hv;simp only [SV.ev,qbi h xs hv.1,qbi h ys hv.2]
 | .ifc t x,hv=>by simp only [SV.all] at hv;simp only [SV.ev,qbp h x hv]
theorem qbi {f:Nat→Bool} {ρ ρ':Nat→AV} (h:∀ k,f k=true→ρ' k = ρ k):∀ l:List SV,SV.alls f l=true→SV.evs ρ' l=SV.evs ρ l
 | [],_=>rfl
 |x::r,hv=>by simp only [SV.alls,Bool.and_eq_true] at hv;simp only [SV.evs,qbp h x hv.1,qbi h r hv.2]
end
mutual
theorem all_mono {f g:Nat→Bool} (h:∀ k,f k=true→g k=true):∀ v:SV,v.all f=true→v.all g=true
 | .a _,_=>rfl
 | .i _,_=>rfl
 | .s _,_=>rfl
 | .tt,_=>rfl
 | .ff,_=>rfl
 | .b _,_=>rfl
 | .p _ _,_=>rfl
 | .bx k off,hv=>h k hv
 | .tp k,hv=>h k hv
 | .ag cs,hv=>qdt h cs hv
 | .tu cs,hv=>qdt h cs hv
 | .fn f xs ys,hv=>by simp only [SV.all,Bool.and_eq_true] at hv ⊢;exact⟨qdt h xs hv.1,qdt h ys hv.2⟩
 | .ifc t x,hv=>all_mono h x hv
theorem qdt {f g:Nat→Bool} (h:∀ k,f k=true→g k=true):∀ l:List SV,SV.alls f l=true→SV.alls g l=true
 | [],_=>rfl
 |x::r,hv=>by simp only [SV.alls,Bool.and_eq_true] at hv ⊢;exact⟨all_mono h x hv.1,qdt h r hv.2⟩
end
inductive SR where
 |cells (T:TypeId) (cs:List SV)
 |tip (sz:Nat) (T:TypeId) (xs:List AV)
 |own (sz:Nat) (T:TypeId) (xs:List AV)
 |obj (P:AObj→AV→Prop)
def SR.all (f:Nat→Bool):SR→Bool
 | .cells _ cs=>SV.alls f cs
 | .tip _ _ _=>true
 | .own _ _ _=>true
 | .obj _=>true
structure qc9 (c:AV):Prop where
 val:∀ (G:Gh) (v:Value),Rel G c v→∃ base,v = .slice base 0 0
 one:c.one=true
 len:lenA c=some 0
 bx:∀ (o ver off len cap:Nat),c≠.os o ver off len (cap+1)
 nb:∀ (o ver off:Nat),c≠.bx o ver off
 ns:∀ (sz:Nat) (xs:List AV) (t:Nat),c≠.sl sz xs (some t)
theorem qw3 (base:Option Addr):qc9 (.v (.slice base 0 0)):=⟨fun G v h=>by cases h;exact⟨base,rfl⟩,rfl,rfl,by simp,by simp,by simp⟩
theorem qmd (o v f:Nat):qc9 (.os o v f 0 0):=⟨fun G v h=>by cases h;exact⟨_,rfl⟩,rfl,rfl,by simp,by simp,by simp⟩
def OwnS (S:List AObj) (sz:Nat) (T:TypeId) (xs:List AV) (c:AV):Prop:=
 (xs=[]∧qc9 c)∨∃ o ver cap pad,c = .os o ver 0 xs.length (cap+1)∧S[o]? = some (.cells ver T (flat xs++pad))∧(flat xs++pad).length=(cap+1) * sz∧(∀ x∈xs,x.cells.length=sz)∧xs.length≤cap+1∧cap+1≤maxLen
def zn:AV→Option Nat
 | .bx o _ _=>some o
 | .sl _ _ (some t)=>some t
 | .os o _ _ _ (_+1)=>some o
 | _=>none
def SR.ok (ρ : Nat→AV) (S:List AObj) (c:AV):SR→Prop
 | .cells T cs=>∃ o v,c = .bx o v 0∧S[o]? = some (.cells v T (SV.evs ρ cs))∧v=0
 | .tip sz T xs=>TipO 0 S sz T xs c
 | .own sz T xs=>OwnS S sz T xs c
 | .obj P=>∃ o x,zn c=some o∧S[o]? = some x∧x≠.dfr∧P x c
theorem SR.all_mono {f g:Nat→Bool} (h:∀ k,f k=true→g k=true):∀ r:SR,r.all f=true→r.all g=true
 | .cells _ cs,hr=>qdt h cs hr
 | .tip _ _ _,_=>rfl
 | .own _ _ _,_=>rfl
 | .obj _,_=>rfl
theorem OwnS.loc {S:List AObj} {sz:Nat} {T:TypeId} {xs:List AV} {c:AV} (h:OwnS S sz T xs c) {o:Nat} (ho:zn c=some o):∃ ver cap pad,c = .os o ver 0 xs.length (cap+1)∧S[o]? = some (.cells ver T (flat xs++pad))∧(flat xs++pad).length=(cap+1) * sz∧(∀ x∈xs,x.cells.length=sz)∧xs.length≤cap+1∧cap+1≤maxLen:=by
 rcases h with⟨_,h⟩ | ⟨o',ver,cap,pad,rfl,h⟩
 ·unfold zn at ho
  split at ho
  ·exact absurd rfl (h.nb _ _ _)
  ·exact absurd rfl (h.ns _ _ _)
  ·exact absurd rfl (h.bx _ _ _ _ _)
  ·simp at ho
 ·simp only [zn,Option.some.injEq] at ho
  subst ho
  exact⟨ver,cap,pad,rfl,h⟩
theorem qc9.loc {c:AV} (h:qc9 c):zn c=none:=by
 unfold zn
 split
 ·exact absurd rfl (h.nb _ _ _)
 ·exact absurd rfl (h.ns _ _ _)
 ·exact absurd rfl (h.bx _ _ _ _ _)
 ·rfl
theorem qc9.wk {c:AV} (h:qc9 c) (sz:Nat):∀ (G:Gh) (v:Value),Rel G c v→Rel G (.sl sz [] none) v:=fun G v hv=>by
 obtain⟨base,rfl⟩:=h.val G v hv
 exact .sl0 sz none _ _ (by simp)
theorem OwnS.of {S S':List AObj} {sz:Nat} {T:TypeId} {xs:List AV} {c:AV} (h:OwnS S sz T xs c) (hs:∀ o,zn c=some o→S'[o]? = S[o]?):OwnS S' sz T xs c:=by
 rcases h with h | ⟨o,ver,cap,pad,rfl,h1,h2⟩
 ·exact .inl h
 ·exact .inr ⟨o,ver,cap,pad,rfl,(hs o rfl).trans h1,h2⟩
theorem SR.ok_lt {ρ : Nat→AV} {S:List AObj} {c:AV} {r:SR} (h:r.ok ρ S c) {o:Nat} (ho:zn c=some o):o<S.length:=by
 cases r with
 |cells T cs=>
  obtain⟨o',v,rfl,h,_⟩:=h
  simp only [zn,Option.some.injEq] at ho
  subst ho
  exact lt_of_getElem? h
 |tip sz T xs=>
  rcases h with (⟨_,rfl⟩ | ⟨t,rfl,ht,_⟩) | ⟨_,o',v,f,rfl⟩
  ·simp [zn] at ho
  ·simp only [zn,Option.some.injEq] at ho
   subst ho
   exact lt_of_getElem? ht
  ·simp [zn] at ho
 |own sz T xs=>
  obtain⟨_,_,_,_,h,_⟩:=OwnS.loc h ho
  exact lt_of_getElem? h
 |obj P=>
  obtain⟨o',x,h1,h2,_⟩:=h
  rw [h1,Option.some.injEq] at ho
  subst ho
  exact lt_of_getElem? h2
theorem SR.ok_of {ρ ρ':Nat→AV} {S S':List AObj} {c:AV} {r:SR} {f:Nat→Bool} (hf:r.all f=true) (hr:∀ k,f k=true→ρ' k = ρ k) (h:r.ok ρ S c) (hs:∀ o,zn c=some o→S'[o]? = S[o]?):r.ok ρ' S' c:=by
 cases r with
 |cells T cs=>
  obtain⟨o,v,rfl,h,h0⟩:=h
  refine⟨o,v,rfl,?_,h0⟩
  rw [hs o rfl,qbi hr cs hf]
  exact h
 |tip sz T xs=>
  rcases h with (⟨h1,h2⟩ | ⟨t,rfl,ht,h0⟩)|h
  ·exact .inl (.inl ⟨h1,h2⟩)
  ·exact .inl (.inr ⟨t,rfl,(hs t rfl).trans ht,h0⟩)
  ·exact .inr h
 |own sz T xs=>exact OwnS.of h hs
 |obj P=>
  obtain⟨o,x,h1,h2,h3⟩:=h
  exact⟨o,x,h1,(hs o h1).trans h2,h3⟩
structure SatF (S:List AObj) (ρ : Nat→AV) (H:Nat→Option SR):Prop where
 ok:∀ k r,H k=some r→r.ok ρ S (ρ k)
 sep:∀ k k' r r',k≠k'→H k=some r→H k'=some r'→∀ o,zn (ρ k)=some o→zn (ρ k')≠some o
def lkS {α : Type}:List (Nat×α)→Nat→Option α
 | [],_=>none
 |(i,v)::r,k=>bif Nat.beq i k then some v else lkS r k
theorem qco {α : Type}:∀ (l r:List (Nat×α)) (k:Nat),lkS (l++r) k=match lkS l k with|some v=>some v|none=>lkS r k
 | [],_,_=>rfl
 |(i,v)::l,r,k=>by
  simp only [List.cons_append,lkS]
  cases Nat.beq i k
  ·simp only [cond_false];exact qco l r k
  ·rfl
def hpF (hp:List (Nat×Option SR)) (k:Nat):Option SR:=match lkS hp k with|some r=>r|none=>none
def chF (ch:List (Nat×Option SR)) (H:Nat→Option SR) (k:Nat):Option SR:=match lkS ch k with|some r=>r|none=>H k
theorem q0a (ch hp:List (Nat×Option SR)):hpF (ch++hp)=chF ch (hpF hp):=by
 funext k
 unfold hpF chF
 rw [qco]
 cases lkS ch k <;> rfl
def memN (ks:List Nat) (k:Nat):Bool:=ks.any (Nat.beq k)
def resF (ks:List Nat) (H:Nat→Option SR) (k:Nat):Option SR:=bif memN ks k then H k else none
theorem wj {ks:List Nat} {H:Nat→Option SR} {k:Nat} {r:SR} (h:resF ks H k=some r):memN ks k=true∧H k=some r:=by
 unfold resF at h
 cases hm:memN ks k with
 |true=>rw [hm] at h;exact⟨rfl,h⟩
 |false=>rw [hm] at h;simp at h
theorem SatF.res {S:List AObj} {ρ : Nat→AV} {H:Nat→Option SR} (h:SatF S ρ H) (ks:List Nat):SatF S ρ (resF ks H):=
 ⟨fun k r hk=>h.ok k r (wj hk).2,fun k k' r r' hne h1 h2=>h.sep k k' r r' hne (wj h1).2 (wj h2).2⟩
structure Ef where
 val:SV
 ks:List Nat
 ch:List (Nat×Option SR)
 nx:Nat
def Ef.wf (e:Ef) (nx:Nat):Bool:=Nat.ble nx e.nx && e.val.all (fun k=>Nat.blt k e.nx) && e.ch.all (fun p=>Nat.blt p.1 e.nx && (memN e.ks p.1 ||Nat.ble nx p.1) && match p.2 with|some r=>r.all (fun k=>Nat.blt k e.nx)|none=>true)
def SlOk (ρ : Nat→AV) (t:Nat→AV) (sl:List (Nat×SV)):Prop:=∀ d v,lkS sl d=some v→t d=v.ev ρ
structure qgf (ρ : Nat→AV) (S:List AObj) (nx:Nat) (H:Nat→Option SR) (e:Ef) (ρ':Nat→AV) (S':List AObj):Prop where
 old:∀ k,(k<nx∨e.nx≤k)→ρ' k = ρ k
 sat:SatF S' ρ' (chF e.ch (resF e.ks H))
 len:S.length≤S'.length
 fr:∀ j,j<S.length→(∀ k r,resF e.ks H k=some r→zn (ρ k)≠some j)→S'[j]? = S[j]?
 loc:∀ k r,chF e.ch (resF e.ks H) k=some r→∀ o,zn (ρ' k)=some o→S.length≤o∨∃ k' r',resF e.ks H k'=some r'∧zn (ρ k')=some o
def Loc (E:Env) (N:Nat) (ops:Array Oper) (o:Oper) (nx:Nat) (sl:List (Nat×SV)) (H:Nat→Option SR) (e:Ef):Prop:=
 ∀ (df:List Nat) (rd:Option Nat) (K:AS→Prop) (rest:List Oper) (ρ : Nat→AV) (t:Nat→AV) (S:List AObj),SlOk ρ t sl→SatF S ρ (resF e.ks H) →
  (∀ ρ' S',qgf ρ S nx H e ρ' S'→AOps E rd N ops rest K (AS.put ⟨t,S',df⟩ o.dst (e.val.ev ρ')))→AOps E rd N ops (o::rest) K ⟨t,S,df⟩
structure Conf where
 sl:List (Nat×SV)
 hp:List (Nat×Option SR)
 nx:Nat
def Conf.app (C:Conf) (d:Option Tmp) (e:Ef):Conf:=⟨match d with|some d=>(d,e.val)::C.sl|none=>C.sl,e.ch++C.hp,e.nx⟩
structure SatR (S0:List AObj) (F:Nat→Prop) (C:Conf) (ρ : Nat→AV) (t:Nat→AV) (S:List AObj):Prop where
 sl:SlOk ρ t C.sl
 hp:SatF S ρ (hpF C.hp)
 own:∀ k r,hpF C.hp k=some r→∀ o,zn (ρ k)=some o→S0.length≤o∨F o
 low:∀ j,j<S0.length→¬ F j→S[j]? = S0[j]?
 len:S0.length≤S.length
 wsl:∀ d v,lkS C.sl d=some v→v.all (fun k=>Nat.blt k C.nx)=true
 whp:∀ k r,hpF C.hp k=some r→k<C.nx∧r.all (fun k=>Nat.blt k C.nx)=true
structure Bs where
 S0:List AObj
 F:Nat→Prop
 ρ0:Nat→AV
 n0:Nat
 dz:Prop
structure Frm (B:Bs) (C:Conf) (ρ : Nat→AV) (df:List Nat) (S:List AObj):Prop where
 dm:∀ d∈df,S[d]? = some .dfr∧B.S0.length≤d
 nd:df.Nodup
 rig:∀ k,k<B.n0→ρ k=B.ρ0 k
 le:B.n0≤C.nx
 dz:B.dz→df=[]
def SatC (B:Bs) (C:Conf) (s:AS):Prop:=∃ ρ,Frm B C ρ s.df s.st∧SatR B.S0 B.F C ρ s.t s.st
theorem SR.ok_dfr {ρ : Nat→AV} {S:List AObj} {c:AV} {r:SR} (h:r.ok ρ S c) {o:Nat} (ho:zn c=some o):S[o]?≠some .dfr:=by
 cases r with
 |cells T cs=>
  obtain⟨o',v,rfl,h,_⟩:=h
  simp only [zn,Option.some.injEq] at ho
  subst ho
  rw [h]
  simp
 |tip sz T xs=>
  rcases h with (⟨_,rfl⟩ | ⟨t,rfl,ht,_⟩) | ⟨_,o',v,f,rfl⟩
  ·simp [zn] at ho
  ·simp only [zn,Option.some.injEq] at ho
   subst ho
   rw [ht]
   simp
  ·simp [zn] at ho
 |own sz T xs=>
  obtain⟨_,_,_,_,h,_⟩:=OwnS.loc h ho
  rw [h]
  simp
 |obj P=>
  obtain⟨o',x,h1,h2,h3,_⟩:=h
  rw [h1,Option.some.injEq] at ho
  subst ho
  rw [h2]
  simpa using h3
theorem vf {a b:Nat} (h:Nat.blt a b=true):a<b:=by simpa [Nat.blt_eq] using h
theorem qal {a b:Nat} (h:a<b):Nat.blt a b=true:=by simpa [Nat.blt_eq] using h
theorem qfa {e:Ef} {nx:Nat} (h:e.wf nx=true):nx≤e.nx∧e.val.all (fun k=>Nat.blt k e.nx)=true∧∀ p∈e.ch,p.1<e.nx∧(memN e.ks p.1=true∨nx≤p.1)∧∀ r,p.2=some r→r.all (fun k=>Nat.blt k e.nx)=true:=by
 simp only [Ef.wf,Bool.and_eq_true] at h
 refine⟨Nat.le_of_ble_eq_true h.1.1,h.1.2,fun p hp=>?_⟩
 have:=List.all_eq_true.1 h.2 p hp
 simp only [Bool.and_eq_true,Bool.or_eq_true] at this
 refine⟨vf this.1.1,this.1.2.imp_right Nat.le_of_ble_eq_true,fun r hr=>?_⟩
 have h3:=this.2
 rw [hr] at h3
 exact h3
theorem kw {α : Type}:∀ {l:List (Nat×α)} {k:Nat} {v : α},lkS l k=some v→(k,v)∈l
 | [],_,_,h=>by simp [lkS] at h
 |(i,x)::r,k,v,h=>by
  unfold lkS at h
  cases hb:Nat.beq i k with
  |true=>
   rw [hb] at h
   simp only [cond_true,Option.some.injEq] at h
   have:=Nat.eq_of_beq_eq_true hb
   subst this
   subst h
   simp
  |false=>
   rw [hb] at h
   exact List.mem_cons_of_mem _ (kw h)
theorem SatR.stepG {S0:List AObj} {F:Nat→Prop} {C:Conf} {ρ ρ' t:Nat→AV} {S S':List AObj} {e:Ef} {d:Option Tmp} {nx NX:Nat} (h:SatR S0 F C ρ t S) (hN:C.nx≤NX) (w2:e.val.all (fun k=>Nat.blt k NX)=true) (w3:∀ p∈e.ch,p.1<NX∧∀ r,p.2=some r→r.all (fun k=>Nat.blt k NX)=true)
  (a1:∀ d v,lkS C.sl d=some v→v.all (fun k=>Nat.blt k nx ||Nat.ble e.nx k)=true) (a2:∀ k r,hpF C.hp k=some r→(k<nx∨e.nx≤k)∧r.all (fun k=>Nat.blt k nx ||Nat.ble e.nx k)=true) (hp:qgf ρ S nx (hpF C.hp) e ρ' S') :
  SatR S0 F ⟨match d with|some d=>(d,e.val)::C.sl|none=>C.sl,e.ch++C.hp,NX⟩ ρ' (AS.put ⟨t,S',[]⟩ d (e.val.ev ρ')).t S':=by
 have hav:∀ k,(Nat.blt k nx ||Nat.ble e.nx k)=true→ρ' k = ρ k:=fun k hk=>by
  rcases Bool.or_eq_true_iff.1 hk with hk|hk
  ·exact hp.old k (.inl (vf hk))
  ·exact hp.old k (.inr (Nat.le_of_ble_eq_true hk))
 have hev:∀ d v,lkS C.sl d=some v→v.ev ρ'=v.ev ρ:=fun d v hd=>qbp hav v (a1 d v hd)
 have hres:∀ k r,hpF C.hp k=some r→memN e.ks k=true→resF e.ks (hpF C.hp) k=some r:=fun k r h1 h2=>by unfold resF;rw [h2];exact h1
 -- what lies at a name behind the operation
 have key:∀ k r,hpF (e.ch++C.hp) k=some r→chF e.ch (resF e.ks (hpF C.hp)) k=some r∨(memN e.ks k=false∧lkS e.ch k=none∧hpF C.hp k=some r):=fun k r hk=>by
  rw [q0a] at hk
  unfold chF at hk ⊢
  cases hl:lkS e.ch k with
  |some x=>rw [hl] at hk;exact .inl hk
  |none=>
   rw [hl] at hk
   simp only at hk ⊢
   cases hm:memN e.ks k with
   |true=>exact .inl (hres k r hk hm)
   |false=>exact .inr ⟨rfl,trivial,hk⟩
 have hst:∀ k r,memN e.ks k=false→hpF C.hp k=some r→∀ o,zn (ρ k)=some o→S'[o]? = S[o]?∧o<S.length:=fun k r hm hk o ho=>by
  have hlt:=SR.ok_lt (h.hp.ok k r hk) ho
  refine⟨hp.fr o hlt fun k' r' hk'=>?_,hlt⟩
  obtain⟨hm',hk'⟩:=wj hk'
  have hne:k≠k':=fun e=>by subst e;rw [hm] at hm';simp at hm'
  exact h.hp.sep k k' r r' hne hk hk' o ho
 have hρ : ∀ k r,hpF C.hp k=some r→ρ' k = ρ k:=fun k r hk=>hp.old k (a2 k r hk).1
 have sepx:∀ k k' r r',memN e.ks k=false→hpF C.hp k=some r→chF e.ch (resF e.ks (hpF C.hp)) k'=some r'→∀ o,zn (ρ' k)=some o→zn (ρ' k')≠some o:=fun k k' r r' hm hk hk' o ho ho'=>by
  rw [hρ k r hk] at ho
  obtain⟨_,hlt⟩:=hst k r hm hk o ho
  rcases hp.loc k' r' hk' o ho' with h1 | ⟨k2,r2,h2,h3⟩
  ·omega
  ·obtain⟨hm2,hk2⟩:=wj h2
   have hne:k≠k2:=fun e=>by subst e;rw [hm] at hm2;simp at hm2
   exact h.hp.sep k k2 r r2 hne hk hk2 o ho h3
 refine⟨?_,⟨?_,?_⟩,?_,?_,Nat.le_trans h.len hp.len,?_,?_⟩
 ·cases d with
  |none=>exact fun x v hx=>(h.sl x v hx).trans (hev x v hx).symm
  |some d=>
   intro x v hx
   simp only [lkS] at hx
   by_cases hd:x=d
   ·subst hd
    have hb:Nat.beq x x=true:=by simp
    rw [hb] at hx
    simp only [cond_true,Option.some.injEq] at hx
    subst hx
    exact wi _ _ _
   ·rw [jx (fun e=>hd e.symm)] at hx
    simp only [cond_false] at hx
    exact (yh _ _ _ _ hd).trans ((h.sl x v hx).trans (hev x v hx).symm)
 ·intro k r hk
  rcases key k r hk with h1 | ⟨hm,_,h1⟩
  ·exact hp.sat.ok k r h1
  ·rw [hρ k r h1]
   exact SR.ok_of (a2 k r h1).2 hav (h.hp.ok k r h1) fun o ho=>(hst k r hm h1 o ho).1
 ·intro k k' r r' hne hk hk' o ho
  rcases key k r hk with h1 | ⟨hm,_,h1⟩
  ·rcases key k' r' hk' with h2 | ⟨hm2,_,h2⟩
   ·exact hp.sat.sep k k' r r' hne h1 h2 o ho
   ·exact fun ho'=>sepx k' k r' r hm2 h2 h1 o ho' ho
  ·rcases key k' r' hk' with h2 | ⟨hm2,_,h2⟩
   ·exact sepx k k' r r' hm h1 h2 o ho
   ·rw [hρ k r h1] at ho
    rw [hρ k' r' h2]
    exact h.hp.sep k k' r r' hne h1 h2 o ho
 ·intro k r hk o ho
  rcases key k r hk with h1 | ⟨hm,_,h1⟩
  ·rcases hp.loc k r h1 o ho with h2 | ⟨k',r',h2,h3⟩
   ·exact .inl (Nat.le_trans h.len h2)
   ·exact h.own k' r' (wj h2).2 o h3
  ·rw [hρ k r h1] at ho
   exact h.own k r h1 o ho
 ·intro j hj hF
  refine (hp.fr j (Nat.lt_of_lt_of_le hj h.len) fun k r hk ho=>?_).trans (h.low j hj hF)
  rcases h.own k r (wj hk).2 j ho with h1|h1
  ·omega
  ·exact hF h1
 ·intro x v hx
  have hold:lkS C.sl x=some v→v.all (fun k=>Nat.blt k NX)=true:=fun hx=>all_mono (fun k hk=>qal (by have:=vf hk;omega)) v (h.wsl x v hx)
  cases d with
  |none=>exact hold hx
  |some d=>
   simp only [lkS] at hx
   cases hb:Nat.beq d x with
   |true=>
    rw [hb] at hx
    simp only [cond_true,Option.some.injEq] at hx
    subst hx
    exact w2
   |false=>
    rw [hb] at hx
    exact hold hx
 ·intro k r hk
  have hold:hpF C.hp k=some r→k<NX∧r.all (fun k=>Nat.blt k NX)=true:=fun hk=>⟨by have:=(h.whp k r hk).1;omega,SR.all_mono (fun k hk=>qal (by have:=vf hk;omega)) r (h.whp k r hk).2⟩
  rcases key k r hk with h1 | ⟨_,_,h1⟩
  ·unfold chF at h1
   cases hl:lkS e.ch k with
   |some x=>
    rw [hl] at h1
    simp only at h1
    obtain⟨h2,h3⟩:=w3 _ (kw hl)
    exact⟨h2,h3 r h1⟩
   |none=>
    rw [hl] at h1
    exact hold (wj h1).2
  ·exact hold h1
theorem SatR.step {S0:List AObj} {F:Nat→Prop} {C:Conf} {ρ ρ' t:Nat→AV} {S S':List AObj} {e:Ef} {d:Option Tmp} (h:SatR S0 F C ρ t S) (hw:e.wf C.nx=true) (hp:qgf ρ S C.nx (hpF C.hp) e ρ' S') :
  SatR S0 F (C.app d e) ρ' (AS.put ⟨t,S',[]⟩ d (e.val.ev ρ')).t S':=by
 obtain⟨w1,w2,w3⟩:=qfa hw
 exact h.stepG w1 w2 (fun p hp=>⟨(w3 p hp).1,(w3 p hp).2.2⟩) (fun d v hd=>all_mono (fun k hk=>by rw [hk];rfl) v (h.wsl d v hd)) (fun k r hk=>⟨.inl (h.whp k r hk).1,SR.all_mono (fun k hk=>by rw [hk];rfl) r (h.whp k r hk).2⟩) hp
theorem Frm.nx {B:Bs} {C C':Conf} {ρ : Nat→AV} {S:List AObj} {df:List Nat} (h:Frm B C ρ df S) (hn:B.n0≤C'.nx):Frm B C' ρ df S:=⟨h.dm,h.nd,h.rig,hn,h.dz⟩
theorem Frm.stepG {B:Bs} {C C':Conf} {ρ ρ':Nat→AV} {S S':List AObj} {df:List Nat} {e:Ef} {nx:Nat} {H:Nat→Option SR} (h:Frm B C ρ df S) (hS:SatF S ρ H) (hp:qgf ρ S nx H e ρ' S') (hn:B.n0≤nx) (hn':B.n0≤C'.nx):Frm B C' ρ' df S':=by
 refine⟨fun x hx=>?_,h.nd,fun k hk=>?_,hn',h.dz⟩
 ·have hm:=h.dm x hx
  refine⟨?_,hm.2⟩
  rw [hp.fr x (lt_of_getElem? hm.1) fun k r hk hl=>?_]
  ·exact hm.1
  ·exact SR.ok_dfr (hS.ok k r (wj hk).2) hl hm.1
 ·rw [hp.old k (.inl (Nat.lt_of_lt_of_le hk hn))]
  exact h.rig k hk
theorem Frm.step {B:Bs} {C:Conf} {ρ ρ':Nat→AV} {S S':List AObj} {df:List Nat} {e:Ef} {d:Option Tmp} (h:Frm B C ρ df S) (hS:SatF S ρ (hpF C.hp)) (hw:e.wf C.nx=true) (hp:qgf ρ S C.nx (hpF C.hp) e ρ' S'):Frm B (C.app d e) ρ' df S':=
 h.stepG hS hp h.le (Nat.le_trans h.le (qfa hw).1)
theorem SatR.dead {S0:List AObj} {F:Nat→Prop} {C:Conf} {ρ t:Nat→AV} {S:List AObj} {d:Nat} (h:SatR S0 F C ρ t S) (hd:S[d]? = some .dfr) (hl:S0.length≤d):SatR S0 F C ρ t (S.set d .dead):=by
 refine⟨h.sl,⟨fun k r hk=>?_,h.hp.sep⟩,h.own,fun j hj hF=>?_,by simpa using h.len,h.wsl,h.whp⟩
 ·refine SR.ok_of (f:=fun _=>true) (SR.all_mono (fun _ _=>rfl) r (h.whp k r hk).2) (fun _ _=>rfl) (h.hp.ok k r hk) fun o ho=>?_
  have hne:d≠o:=fun e=>SR.ok_dfr (h.hp.ok k r hk) ho (e▸hd)
  rw [List.getElem?_set_ne hne]
 ·rw [List.getElem?_set_ne (by omega)]
  exact h.low j hj hF
theorem SR.ok_ct {ρ : Nat→AV} {S:List AObj} {c:AV} {r:SR} (h:r.ok ρ S c) {o:Nat} (ho:zn c=some o):(∃ T cs v,S[o]? = some (.cells v T cs)∧∃ T' cs',r = .cells T' cs')∨(∃ m sz T,S[o]? = some (.tip m sz T))∨(∃ sz T xs,r = .own sz T xs)∨∃ P,r = .obj P:=by
 cases r with
 |cells T cs=>
  obtain⟨o',v,rfl,h,_⟩:=h
  simp only [zn,Option.some.injEq] at ho
  subst ho
  exact .inl ⟨_,_,_,h,_,_,rfl⟩
 |tip sz T xs=>
  rcases h with (⟨_,rfl⟩ | ⟨t,rfl,ht,_⟩) | ⟨_,o',v,f,rfl⟩
  ·simp [zn] at ho
  ·simp only [zn,Option.some.injEq] at ho
   subst ho
   exact .inr (.inl ⟨_,_,_,ht⟩)
  ·simp [zn] at ho
 |own sz T xs=>exact .inr (.inr (.inl ⟨_,_,_,rfl⟩))
 |obj P=>exact .inr (.inr (.inr ⟨_,rfl⟩))
def qcf (hp:List (Nat×Option SR)) (ρ : Nat→AV) (o:Nat):Prop:=∃ k r,hpF hp k=some r∧zn (ρ k)=some o
theorem SatR.rebase {S0:List AObj} {F:Nat→Prop} {C:Conf} {ρ t:Nat→AV} {S S':List AObj} (h:SatR S0 F C ρ t S) (hs:∀ o,qcf C.hp ρ o→S'[o]? = S[o]?):SatR S' (qcf C.hp ρ) C ρ t S':=
 ⟨h.sl,⟨fun k r hk=>SR.ok_of (f:=fun _=>true) (SR.all_mono (fun _ _=>rfl) r (h.whp k r hk).2) (fun _ _=>rfl) (h.hp.ok k r hk) fun o ho=>hs o ⟨k,r,hk,ho⟩,h.hp.sep⟩,
  fun k r hk o ho=>.inr ⟨k,r,hk,ho⟩,fun _ _ _=>rfl,Nat.le_refl _,h.wsl,h.whp⟩
def Wk (x r:AV):Prop:=∀ (G:Gh) (v:Value),Rel G x v→Rel G r v
theorem wa (x:AV):Wk x x:=fun _ _ h=>h
theorem zeg {x y:AV} (h:x=y):Wk x y:=h▸wa x
theorem q9t (sz:Nat) (xs:List AV) (tip:Option Nat):Wk (.sl sz xs tip) (.sl sz xs none):=fun _ _ h=>qix h
theorem q3f {xs ys:List AV} (hl:xs.length=ys.length) (h:∀ (i:Nat) (x y:AV),xs[i]? = some x→ys[i]? = some y→Wk x y):Wk (.ag xs) (.ag ys):=fun G v hr=>by
 cases hr with
 |ag _ vs hl' hr=>
  refine .ag _ vs (by omega) fun i y b hy hb=>?_
  have hi:=lt_of_getElem? hy
  have hx:xs[i]? = some (xs[i]'(by omega)):=List.getElem?_eq_getElem (by omega)
  exact h i _ y hx hy G b (hr i _ b hx hb)
theorem zab {xs ys:List AV} (hl:xs.length=ys.length) (h:∀ (i:Nat) (x y:AV),xs[i]? = some x→ys[i]? = some y→Wk x y):Wk (.tu xs) (.tu ys):=fun G v hr=>by
 cases hr with
 |tu _ vs hl' hr=>
  refine .tu _ vs (by omega) fun i y b hy hb=>?_
  have hi:=lt_of_getElem? hy
  have hx:xs[i]? = some (xs[i]'(by omega)):=List.getElem?_eq_getElem (by omega)
  exact h i _ y hx hy G b (hr i _ b hx hb)
theorem zd1 {t:TypeId} {x y:AV} (h:Wk x y):Wk (.ifc t x) (.ifc t y):=fun G v hr=>by
 cases hr with
 |ifc _ _ z hz=>exact .ifc t y z (h G z hz)
theorem zeh {f:Fn} {a b c d:List AV} (h1:a.length=c.length) (h2:∀ (i:Nat) (x y:AV),a[i]? = some x→c[i]? = some y→Wk x y) (h3:b.length=d.length) (h4:∀ (i:Nat) (x y:AV),b[i]? = some x→d[i]? = some y→Wk x y):Wk (.fn f a b) (.fn f c d):=fun G v hr=>by
 cases hr with
 |fn _ _ _ a' b' g1 g2 g3 g4=>
  refine .fn f c d a' b' (by omega) (by omega) (fun i x y hx hy=>?_) (fun i x y hx hy=>?_)
  ·have hi:i<a.length:=by have:=lt_of_getElem? hx;omega
   have hz:a[i]? = some a[i]:=List.getElem?_eq_getElem hi
   exact h2 i _ x hz hx G y (g3 i _ y hz hy)
  ·have hi:i<b.length:=by have:=lt_of_getElem? hx;omega
   have hz:b[i]? = some b[i]:=List.getElem?_eq_getElem hi
   exact h4 i _ x hz hx G y (g4 i _ y hz hy)
mutual
def frz (H:Nat→Option SR):SV→Option AV
 | .a x=>some x
 | .i n=>some (Iv n)
 | .s l=>some (Sv l)
 | .tt=>some (Bv true)
 | .ff=>some (Bv false)
 | .b c=>some (Bv c)
 | .p q h=>some (Bv (@decide q h))
 | .bx _ _=>none
 | .tp k=>match H k with
  |some (.tip sz _ xs)=>some (.sl sz xs none)
  | _=>none
 | .ag cs=>match frzs H cs with
  |some l=>some (.ag l)
  |none=>none
 | .tu cs=>match frzs H cs with
  |some l=>some (.tu l)
  |none=>none
 | .fn f xs ys=>match frzs H xs,frzs H ys with
  |some a,some b=>some (.fn f a b)
  | _,_=>none
 | .ifc t x=>match frz H x with
  |some y=>some (.ifc t y)
  |none=>none
def frzs (H:Nat→Option SR):List SV→Option (List AV)
 | []=>some []
 |x::r=>match frz H x,frzs H r with
  |some y,some l=>some (y::l)
  | _,_=>none
end
theorem q5d {x:AV} (h:x.one=true):x.cells=[x]:=by
 cases x <;> first|rfl|simp [AV.one] at h
theorem qsp {b:Nat} {S:List AObj} {sz:Nat} {T:TypeId} {xs:List AV} {c:AV} (h:TipO b S sz T xs c):Wk (tpAt c) (.sl sz xs none)∧c.one=true:=by
 have h1:c.one=true:=by rcases h with (⟨_,rfl⟩ | ⟨t,rfl,_⟩) | ⟨_,o,v,f,rfl⟩ <;> rfl
 refine⟨?_,h1⟩
 unfold tpAt
 rw [h1]
 exact qkz h
mutual
theorem qhn {S:List AObj} {ρ : Nat→AV} {H:Nat→Option SR} (hS:SatF S ρ H):∀ (v:SV) (x:AV),frz H v=some x→Wk (v.ev ρ) x
 | .a y,x,h=>by simp only [frz,Option.some.injEq] at h;subst h;exact wa _
 | .i y,x,h=>by simp only [frz,Option.some.injEq] at h;subst h;exact wa _
 | .s y,x,h=>by simp only [frz,Option.some.injEq] at h;subst h;exact wa _
 | .tt,x,h=>by simp only [frz,Option.some.injEq] at h;subst h;exact wa _
 | .ff,x,h=>by simp only [frz,Option.some.injEq] at h;subst h;exact wa _
 | .b y,x,h=>by simp only [frz,Option.some.injEq] at h;subst h;exact wa _
 | .p q d,x,h=>by simp only [frz,Option.some.injEq] at h;subst h;exact wa _
 | .bx _ _,x,h=>by simp [frz] at h
 | .tp k,x,h=>by
  simp only [frz] at h
  split at h
  ·rename_i sz T xs hk
   simp only [Option.some.injEq] at h
   subst h
   exact (qsp (hS.ok k _ hk)).1
  ·simp at h
 | .ag cs,x,h=>by
  simp only [frz] at h
  split at h
  ·rename_i l hl
   simp only [Option.some.injEq] at h
   subst h
   obtain⟨h1,h2⟩:=qdz hS cs l hl
   exact q3f h1 h2
  ·simp at h
 | .tu cs,x,h=>by
  simp only [frz] at h
  split at h
  ·rename_i l hl
   simp only [Option.some.injEq] at h
   subst h
   obtain⟨h1,h2⟩:=qdz hS cs l hl
   exact zab h1 h2
  ·simp at h
 | .fn f xs ys,x,h=>by
  simp only [frz] at h
  split at h
  ·rename_i a b ha hb
   simp only [Option.some.injEq] at h
   subst h
   obtain⟨h1,h2⟩:=qdz hS xs a ha
   obtain⟨h3,h4⟩:=qdz hS ys b hb
   exact zeh h1 h2 h3 h4
  ·simp at h
 | .ifc t y,x,h=>by
  simp only [frz] at h
  split at h
  ·rename_i z hz
   simp only [Option.some.injEq] at h
   subst h
   exact zd1 (qhn hS y z hz)
  ·simp at h
theorem qdz {S:List AObj} {ρ : Nat→AV} {H:Nat→Option SR} (hS:SatF S ρ H):∀ (l:List SV) (ys:List AV),frzs H l=some ys→(SV.evs ρ l).length=ys.length∧∀ (i:Nat) (x y:AV),(SV.evs ρ l)[i]? = some x→ys[i]? = some y→Wk x y
 | [],ys,h=>by simp only [frzs,Option.some.injEq] at h;subst h;exact⟨rfl,by simp [SV.evs]⟩
 |v::r,ys,h=>by
  simp only [frzs] at h
  split at h
  ·rename_i y l hy hl
   simp only [Option.some.injEq] at h
   subst h
   obtain⟨h1,h2⟩:=qdz hS r l hl
   have h3:=qhn hS v y hy
   refine⟨by simp [SV.evs,h1],fun i a b ha hb=>?_⟩
   cases i with
   |zero=>simp [SV.evs] at ha hb;subst ha;subst hb;exact h3
   |succ i=>exact h2 i a b (by simpa [SV.evs] using ha) (by simpa using hb)
  ·simp at h
end
mutual
def SV.ks:SV→List Nat
 | .bx k _=>[k]
 | .tp k=>[k]
 | .ag cs=>SV.kss cs
 | .tu cs=>SV.kss cs
 | .fn _ xs ys=>SV.kss xs++SV.kss ys
 | .ifc _ x=>SV.ks x
 | _=>[]
def SV.kss:List SV→List Nat
 | []=>[]
 |x::r=>SV.ks x++SV.kss r
end
mutual
def nf:AV→SV
 | .v (.int .i64 n)=>.i n
 | .v (.string ⟨⟨l⟩⟩)=>.s l
 | .v (.bool c)=>.b c
 | .ag cs=>.ag (nfs cs)
 | .tu cs=>.tu (nfs cs)
 |x=>.a x
def nfs:List AV→List SV
 | []=>[]
 |x::r=>nf x::nfs r
end
mutual
theorem qkl (ρ : Nat→AV):∀ x:AV,(nf x).ev ρ = x
 | .v x=>by
  unfold nf
  split <;> first|rfl|(rename_i h;cases h;done)|(rename_i h;cases h;rfl)
 | .ag cs=>by simp only [nf,SV.ev,qhw ρ cs]
 | .tu cs=>by simp only [nf,SV.ev,qhw ρ cs]
 | .ifc _ _=>rfl
 | .fn _ _ _=>rfl
 | .sl _ _ _=>rfl
 | .pp _=>rfl
 | .bx _ _ _=>rfl
 | .os _ _ _ _ _=>rfl
 | .mp _=>rfl
 | .yd _=>rfl
theorem qhw (ρ : Nat→AV):∀ l:List AV,SV.evs ρ (nfs l)=l
 | []=>rfl
 |x::r=>by simp only [nfs,SV.evs,qkl ρ x,qhw ρ r]
end
mutual
theorem zdg {f:Nat→Bool}:∀ x:AV,(nf x).all f=true
 | .v x=>by unfold nf;split <;> first|rfl|(rename_i h;cases h)
 | .ag cs=>by simp only [nf,SV.all];exact qmy cs
 | .tu cs=>by simp only [nf,SV.all];exact qmy cs
 | .ifc _ _=>rfl
 | .fn _ _ _=>rfl
 | .sl _ _ _=>rfl
 | .pp _=>rfl
 | .bx _ _ _=>rfl
 | .os _ _ _ _ _=>rfl
 | .mp _=>rfl
 | .yd _=>rfl
theorem qmy {f:Nat→Bool}:∀ l:List AV,SV.alls f (nfs l)=true
 | []=>rfl
 |x::r=>by simp only [nfs,SV.alls,zdg x,qmy r];rfl
end
def cst:Value→SV
 | .bool true=>.tt
 | .bool false=>.ff
 |x=>nf (.v x)
theorem zct (ρ : Nat→AV) (x:Value):(cst x).ev ρ = .v x:=by
 unfold cst
 split
 ·rfl
 ·rfl
 ·exact qkl ρ _
def SV.cells:SV→List SV
 | .ag cs=>cs
 | .a x=>nfs x.cells
 |v=>[v]
theorem qod (ρ : Nat→AV) (v:SV):SV.evs ρ v.cells=(v.ev ρ).cells:=by
 cases v with
 |a x=>exact qhw ρ _
 |bx k off=>simp only [SV.cells,SV.evs,SV.ev];cases ρ k <;> rfl
 |tp k=>simp only [SV.cells,SV.evs,SV.ev,tpAt];cases h:(ρ k).one <;> first|rfl|(simp only [cond_true];exact (q5d h).symm)
 | _=>rfl
def SV.okc:SV→Bool
 | .a x=>x.okc
 | _=>true
theorem qxd (ρ : Nat→AV) (v:SV) (h:v.okc=true):(v.ev ρ).okc=true:=by
 cases v with
 |a x=>exact h
 |bx k off=>simp only [SV.ev];cases ρ k <;> rfl
 |tp k=>
  simp only [SV.ev,tpAt]
  cases h:(ρ k).one
  ·rfl
  ·simp only [cond_true]
   cases hk : ρ k with
   |v x=>rw [hk] at h;cases x <;> first|rfl|simp [AV.one] at h
   | _=>rfl
 | _=>rfl
def SV.one:SV→Bool
 | .a x=>x.one
 | .ag _=>false
 | .tu _=>false
 | _=>true
theorem zb8 (ρ : Nat→AV) (v:SV) (h:v.one=true):(v.ev ρ).one=true:=by
 cases v with
 |a x=>exact h
 |bx k off=>simp only [SV.ev];cases ρ k <;> rfl
 |tp k=>simp only [SV.ev,tpAt];cases h:(ρ k).one <;> first|rfl|exact h
 |ag _=>simp [SV.one] at h
 |tu _=>simp [SV.one] at h
 | _=>rfl
def ones (l:List SV):Bool:=l.all SV.one
theorem q0l (ρ : Nat→AV):∀ l:List SV,ones l=true→∀ z∈SV.evs ρ l,z.one=true
 | [],_,z,hz=>by simp [SV.evs] at hz
 |x::r,h,z,hz=>by
  simp only [ones,List.all_cons,Bool.and_eq_true] at h
  simp only [SV.evs,List.mem_cons] at hz
  rcases hz with rfl|hz
  ·exact zb8 ρ x h.1
  ·exact q0l ρ r h.2 z hz
def sval (N:Nat) (sl:List (Nat×SV)):Operand→Option SV
 | .tmp i=>bif Nat.blt i N then lkS sl i else none
 | .const x=>some (cst x)
 | .global g=>some (.a (.v (.pointer (some ⟨g,0,none⟩))))
 | .func f=>some (.a (.fn (.func f) [] []))
theorem q8 {N:Nat} {sl:List (Nat×SV)} {ρ t:Nat→AV} {S:List AObj} {df:List Nat} (h:SlOk ρ t sl) {x:Operand} {v:SV} (hx:sval N sl x=some v):qj N ⟨t,S,df⟩ x=v.ev ρ:=by
 cases x with
 |tmp i=>
  simp only [sval] at hx
  simp only [qj]
  cases hb:Nat.blt i N with
  |true=>rw [hb] at hx;exact h i v hx
  |false=>rw [hb] at hx;simp at hx
 |const x=>simp only [sval,Option.some.injEq] at hx;subst hx;exact (zct ρ x).symm
 |global g=>simp only [sval,Option.some.injEq] at hx;subst hx;rfl
 |func f=>simp only [sval,Option.some.injEq] at hx;subst hx;rfl
def qk3 (N:Nat) (sl:List (Nat×SV)):List Operand→Option (List SV)
 | []=>some []
 |x::r=>match sval N sl x,qk3 N sl r with
  |some v,some l=>some (v::l)
  | _,_=>none
theorem qk4 {N:Nat} {sl:List (Nat×SV)} {ρ t:Nat→AV} {S:List AObj} {df:List Nat} (h:SlOk ρ t sl):∀ {xs:List Operand} {l:List SV},qk3 N sl xs=some l→xs.map (qj N ⟨t,S,df⟩)=SV.evs ρ l
 | [],l,hx=>by simp only [qk3,Option.some.injEq] at hx;subst hx;rfl
 |x::r,l,hx=>by
  simp only [qk3] at hx
  split at hx
  ·rename_i v l' h1 h2
   simp only [Option.some.injEq] at hx
   subst hx
   simp only [List.map_cons,SV.evs,q8 h h1,qk4 h h2]
  ·simp at hx
section
variable {E : Env} {N : Nat} {ops : Array Oper} {o : Oper} {nx : Nat} {sl : List (Nat × SV)} {H : Nat → Option SR}
theorem ya {v:SV} {ks:List Nat} (h:∀ (df:List Nat) (rd:Option Nat) (K:AS→Prop) (rest:List Oper) (ρ t:Nat→AV) (S:List AObj),SlOk ρ t sl→SatF S ρ (resF ks H)→AOps E rd N ops rest K (AS.put ⟨t,S,df⟩ o.dst (v.ev ρ))→AOps E rd N ops (o::rest) K ⟨t,S,df⟩) :
  Loc E N ops o nx sl H ⟨v,ks,[],nx⟩:=fun df rd K rest ρ t S hs hS hk=>
 h df rd K rest ρ t S hs hS (hk ρ S ⟨fun _ _=>rfl,⟨fun k r hk=>hS.ok k r hk,fun k k' r r' hne h1 h2=>hS.sep k k' r r' hne h1 h2⟩,Nat.le_refl _,fun _ _ _=>rfl,fun k r hk o ho=>.inr ⟨k,r,hk,ho⟩⟩)
theorem jf {v:SV} (h:∀ (df:List Nat) (rd:Option Nat) (K:AS→Prop) (rest:List Oper) (ρ t:Nat→AV) (S:List AObj),SlOk ρ t sl→AOps E rd N ops rest K (AS.put ⟨t,S,df⟩ o.dst (v.ev ρ))→AOps E rd N ops (o::rest) K ⟨t,S,df⟩) :
  Loc E N ops o nx sl H ⟨v,[],[],nx⟩:=ya fun df rd K rest ρ t S hs _ hk=>h df rd K rest ρ t S hs hk
def upd (ρ : Nat→AV) (n:Nat) (c:AV):Nat→AV:=fun k=>bif Nat.beq k n then c else ρ k
theorem va (ρ : Nat→AV) (n:Nat) (c:AV):upd ρ n c n=c:=by simp [upd]
theorem xz (ρ : Nat→AV) {n k:Nat} (c:AV) (h:k≠n):upd ρ n c k = ρ k:=by simp [upd,jx h]
theorem qmw {v:SV} {r:SR} {ks:List Nat} (hks:∀ k r,resF ks H k=some r→k≠nx∧r.all (fun k=> !Nat.beq k nx)=true) (h:∀ (df:List Nat) (rd:Option Nat) (K:AS→Prop) (rest:List Oper) (ρ t:Nat→AV) (S:List AObj),SlOk ρ t sl→SatF S ρ (resF ks H) →
   (∀ c l,r.ok (upd ρ nx c) (S++l) c→(∀ o,zn c=some o→S.length≤o)→AOps E rd N ops rest K (AS.put ⟨t,S++l,df⟩ o.dst (v.ev (upd ρ nx c))))→AOps E rd N ops (o::rest) K ⟨t,S,df⟩) :
  Loc E N ops o nx sl H ⟨v,ks,[(nx,some r)],nx+1⟩:=fun df rd K rest ρ t S hs hS hk=>by
 refine h df rd K rest ρ t S hs hS fun c l hc hl=>hk _ _ ⟨fun k hk=>xz _ _ (by simp only at hk;omega),?_,by simp,fun j hj _=>List.getElem?_append_left hj,?_⟩
 ·have key:∀ k r',chF [(nx,some r)] (resF ks H) k=some r'→(k=nx∧r'=r)∨(k≠nx∧resF ks H k=some r'):=fun k r' hk=>by
   simp only [chF,lkS] at hk
   by_cases e:nx=k
   ·subst e
    have:Nat.beq nx nx=true:=by simp
    rw [this] at hk
    simp only [cond_true,Option.some.injEq] at hk
    exact .inl ⟨rfl,hk.symm⟩
   ·rw [jx e] at hk
    exact .inr ⟨fun h=>e h.symm,hk⟩
  refine⟨fun k r' hk=>?_,fun k k' r1 r2 hne h1 h2 o ho=>?_⟩
  ·rcases key k r' hk with⟨rfl,rfl⟩ | ⟨h1,h2⟩
   ·rw [va];exact hc
   ·rw [xz _ _ h1]
    have h3:=hS.ok k r' h2
    exact SR.ok_of (hks k r' h2).2 (fun k hk=>xz _ _ (fun e=>by subst e;simp at hk)) h3 fun o ho=>List.getElem?_append_left (SR.ok_lt h3 ho)
  ·rcases key k r1 h1 with⟨rfl,rfl⟩ | ⟨g1,g2⟩
   ·rcases key k' r2 h2 with⟨rfl,rfl⟩ | ⟨f1,f2⟩
    ·exact absurd rfl hne
    ·rw [va] at ho
     rw [xz _ _ f1]
     intro ho'
     have:=SR.ok_lt (hS.ok k' r2 f2) ho'
     have:=hl o ho
     omega
   ·rcases key k' r2 h2 with⟨rfl,rfl⟩ | ⟨f1,f2⟩
    ·rw [xz _ _ g1] at ho
     rw [va]
     intro ho'
     have:=SR.ok_lt (hS.ok k r1 g2) ho
     have:=hl o ho'
     omega
    ·rw [xz _ _ g1] at ho
     rw [xz _ _ f1]
     exact hS.sep k k' r1 r2 hne g2 f2 o ho
 ·intro k r' hk o ho
  simp only [chF,lkS] at hk
  by_cases e:nx=k
  ·subst e
   rw [va] at ho
   exact .inl (hl o ho)
  ·rw [jx e] at hk
   rw [xz _ _ (fun h=>e h.symm)] at ho
   exact .inr ⟨k,r',hk,ho⟩
end
end Go.Av
namespace Go.Av
open Go Go.RowKit
section
variable {E : Env} {N : Nat} {ops : Array Oper} {nx : Nat} {sl : List (Nat × SV)} {H : Nat → Option SR} {k : Ef → Prop} {d : Option Tmp} {T : TypeId} {p : String} {af : Array Edge}
def vr (nx:Nat) (v:SV):Ef:=⟨v,[],[],nx⟩
def mvW (nx:Nat) (k:Ef→Prop):Option SV→Prop
 |some v=>k (vr nx v)
 |none=>False
theorem zbo {x:Operand} (h:mvW nx k (sval N sl x)):∃ e,Loc E N ops ⟨d,.move x,T,p,af,none⟩ nx sl H e∧k e:=by
 cases hv:sval N sl x with
 |none=>rw [hv] at h;exact h.elim
 |some v=>rw [hv] at h;exact⟨_,jf fun df rd K rest ρ t S hs hk=>qi (by rw [q8 hs hv];exact hk),h⟩
theorem q3s {x:Operand} (h:mvW nx k (sval N sl x)):∃ e,Loc E N ops ⟨d,.assign x,T,p,af,none⟩ nx sl H e∧k e:=by
 cases hv:sval N sl x with
 |none=>rw [hv] at h;exact h.elim
 |some v=>rw [hv] at h;exact⟨_,jf fun df rd K rest ρ t S hs hk=>qg (by rw [q8 hs hv];exact hk),h⟩
def wayW (x y:Prop):SV→Prop
 | .tt=>x
 | .ff=>y
 | .p q _=>(q→x)∧(¬ q→y)
 | .b c=>(c=true→x)∧(c=false→y)
 | _=>False
theorem q6q {x y:Prop} {v:SV} (h:wayW x y v):∃ c:Bool,(∀ ρ,v.ev ρ = Bv c)∧((c=true∧x)∨(c=false∧y)):=by
 cases v with
 |tt=>exact⟨true,fun _=>rfl,.inl ⟨rfl,h⟩⟩
 |ff=>exact⟨false,fun _=>rfl,.inr ⟨rfl,h⟩⟩
 |p q i=>
  by_cases hq:q
  ·exact⟨_,fun _=>rfl,.inl ⟨by simp [hq],h.1 hq⟩⟩
  ·exact⟨_,fun _=>rfl,.inr ⟨by simp [hq],h.2 hq⟩⟩
 |b c=>
  cases c with
  |true=>exact⟨true,fun _=>rfl,.inl ⟨rfl,h.1 rfl⟩⟩
  |false=>exact⟨false,fun _=>rfl,.inr ⟨rfl,h.2 rfl⟩⟩
 | _=>exact h.elim
def q2m (N:Nat) (sl:List (Nat×SV)) (nx:Nat) (k:Ef→Prop) (c x y:Operand):Prop:=
 match sval N sl c with
 |some v=>wayW (mvW nx k (sval N sl x)) (mvW nx k (sval N sl y)) v
 |none=>False
theorem zbv {c x y:Operand} (h:q2m N sl nx k c x y):∃ e,Loc E N ops ⟨d,.pick c x y,T,p,af,none⟩ nx sl H e∧k e:=by
 unfold q2m at h
 split at h
 ·rename_i v hv
  obtain⟨b,hb,h⟩:=q6q h
  rcases h with⟨hc,h⟩ | ⟨hc,h⟩
  ·cases hx:sval N sl x with
   |none=>rw [hx] at h;exact h.elim
   |some u=>rw [hx] at h;exact⟨_,jf fun df rd K rest ρ t S hs hk=>qne ((q8 hs hv).trans (hb ρ)) hc (by rw [q8 hs hx];exact hk),h⟩
  ·cases hx:sval N sl y with
   |none=>rw [hx] at h;exact h.elim
   |some u=>rw [hx] at h;exact⟨_,jf fun df rd K rest ρ t S hs hk=>qnd ((q8 hs hv).trans (hb ρ)) hc (by rw [q8 hs hx];exact hk),h⟩
 ·exact h.elim
def qvb (P:Program) (nx:Nat) (k:Ef→Prop) (t:TypeId):Prop:=
 match qg4 P t with
 |some cs=>k ⟨.bx nx 0,[],[(nx,some (.cells t (nfs cs)))],nx+1⟩
 |none=>False
theorem qk0 (k:Nat):resF [] H k=none:=rfl
theorem yo (k:Nat):resF [k] H k=H k:=by simp [resF,memN]
theorem q6w {t:TypeId} (h:qvb E.P nx k t):∃ e,Loc E N ops ⟨d,.alloc t,T,p,af,none⟩ nx sl H e∧k e:=by
 unfold qvb at h
 split at h
 ·rename_i cs hz
  refine⟨_,qmw (fun k r hk=>by rw [qk0] at hk;simp at hk) fun df rd K rest ρ t' S hs _ hk=>qi1 rfl hz ?_,h⟩
  have:=hk (.bx S.length 0 0) [.cells 0 t cs] ⟨S.length,0,rfl,by rw [qhw];exact xd,rfl⟩ (fun o ho=>by simp only [zn,Option.some.injEq] at ho;omega)
  simpa only [SV.ev,va,bxAt] using this
 ·exact h.elim
theorem q05 {rd:Option Nat} {K:AS→Prop} {rest:List Oper} {s:AS} {t:TypeId} {x:Operand} {r:AV} {cs:List AV} (hx:Wk (qj N s x) r) (hok:r.okc=true) (hc:r.cells=cs)
  (h:AOps E rd N ops rest K (s.put d (.pp cs))):AOps E rd N ops (⟨d,.box t x,T,p,af,none⟩::rest) K s:=by
 refine q6 rfl (qz nofun fun B0 w0 G a w _ hI=>?_)
 have hr:=(hx _ _ (hI.eval x)).cells hok
 rw [hc] at hr
 obtain⟨hle,hA⟩:=hI.agree.newPub t (a.eval x).cells (0,0) (a.eval x).cells.toList (fun i y hy=>by simpa using hy)
 have hrun:(execOp a.eval ⟨d,.box t x,T,p,af,none⟩).run E.P w = .ok (.value (.pointer (some ⟨w.heap.size,0,none⟩))) (w.alloc (.cells (a.eval x).cells t)):=by
  generalize a.eval = ρ
  simp [execOp,Instr.box,newVar,newRow,newObj,Sem.run]
 refine⟨_,_,_,.pp cs,s.st,hrun,hle,hA,.pp cs w.heap.size 0 (a.eval x).cells.toList (by simp [Gh.publish]) (by rw [hr.1];simp) fun i x y hx hy=>(hr.2 i x y hx (by simpa using hy)).mono hle,h⟩
def qqo (bxs:List Nat):Option Tmp→Bool
 |some d=>memN bxs d
 |none=>false
def boxW (bxs:List Nat) (H:Nat→Option SR) (nx:Nat) (k:Ef→Prop) (d:Option Tmp) (t:TypeId):Option SV→Prop
 |some v=>bif qqo bxs d then (bif v.okc && v.all (fun k=> !Nat.beq k nx) then k ⟨.bx nx 0,[],[(nx,some (.cells t v.cells))],nx+1⟩ else False)
  else match frz (resF v.ks H) v with
   |some y=>bif y.okc then k ⟨.a (.pp y.cells),v.ks,[],nx⟩ else False
   |none=>False
 |none=>False
theorem q36 {f:Nat→Bool}:∀ v:SV,v.all f=true→SV.alls f v.cells=true
 | .ag cs,h=>h
 | .a x,_=>qmy _
 | .i _,_=>rfl
 | .s _,_=>rfl
 | .tt,_=>rfl
 | .ff,_=>rfl
 | .b _,_=>rfl
 | .p _ _,_=>rfl
 | .bx k _,h=>by simpa [SV.cells,SV.alls] using h
 | .tp k,h=>by simpa [SV.cells,SV.alls] using h
 | .tu cs,h=>by simpa [SV.cells,SV.alls] using h
 | .fn _ _ _,h=>by simpa [SV.cells,SV.alls] using h
 | .ifc _ _,h=>by simpa [SV.cells,SV.alls] using h
theorem zcq {bxs:List Nat} {t:TypeId} {x:Operand} (h:boxW bxs H nx k d t (sval N sl x)):∃ e,Loc E N ops ⟨d,.box t x,T,p,af,none⟩ nx sl H e∧k e:=by
 cases hv:sval N sl x with
 |none=>rw [hv] at h;exact h.elim
 |some v=>
  rw [hv] at h
  unfold boxW at h
  cases hb:qqo bxs d with
  |true=>
   rw [hb] at h
   simp only [cond_true] at h
   cases hc:(v.okc && v.all (fun k=> !Nat.beq k nx)) with
   |false=>rw [hc] at h;exact h.elim
   |true=>
    rw [hc] at h
    simp only [Bool.and_eq_true] at hc
    refine⟨_,qmw (fun k r hk=>by rw [qk0] at hk;simp at hk) fun df rd K rest ρ t' S hs _ hk=>q3l rfl (q8 hs hv) (qxd ρ v hc.1) (qod ρ v).symm ?_,h⟩
    have he:SV.evs (upd ρ nx (.bx S.length 0 0)) v.cells=SV.evs ρ v.cells:=qbi (f:=fun k=> !Nat.beq k nx) (fun k hk=>xz _ _ (fun e=>by subst e;simp at hk)) _ (q36 v hc.2)
    have:=hk (.bx S.length 0 0) [.cells 0 t (SV.evs ρ v.cells)] ⟨S.length,0,rfl,by rw [he];exact xd,rfl⟩ (fun o ho=>by simp only [zn,Option.some.injEq] at ho;omega)
    simpa only [SV.ev,va,bxAt] using this
  |false=>
   rw [hb] at h
   simp only [cond_false] at h
   split at h
   ·rename_i y hy
    cases hc:y.okc with
    |false=>rw [hc] at h;exact h.elim
    |true=>
     rw [hc] at h
     exact⟨_,ya (v:=.a (.pp y.cells)) fun df rd K rest ρ t' S hs hS hk=>q05 (by rw [q8 hs hv];exact qhn hS v y hy) hc rfl hk,h⟩
   ·exact h.elim
def spl {α : Type} (cs:List α) (off:Nat) (xs:List α):List α:=cs.take off++xs++cs.drop (off+xs.length)
theorem q56 (ρ : Nat→AV) (cs xs:List SV) (off:Nat):SV.evs ρ (spl cs off xs)=zu (SV.evs ρ cs) off (SV.evs ρ xs):=by
 simp [spl,zu,v8]
def qqf (place:Nat→Option (Nat×Nat)) (cells:List SV):List (Nat×SV)→Option (List SV)
 | []=>some cells
 |(i,x)::rest=>
  match place i with
  |none=>none
  |some (off,size)=>bif x.okc && Nat.beq x.cells.length size && Nat.ble (off+size) cells.length then qqf place (spl cells off x.cells) rest else none
theorem qwd (ρ : Nat→AV) (place:Nat→Option (Nat×Nat)):∀ (ps:List (Nat×SV)) (cells cs:List SV),qqf place cells ps=some cs→qbr place (SV.evs ρ cells) (ps.map fun q=>(q.1,q.2.ev ρ))=some (SV.evs ρ cs)
 | [],cells,cs,h=>by simp only [qqf,Option.some.injEq] at h;subst h;rfl
 |(i,x)::rest,cells,cs,h=>by
  simp only [qqf] at h
  simp only [List.map_cons,qbr]
  cases hp:place i with
  |none=>rw [hp] at h;simp at h
  |some q=>
   obtain⟨off,size⟩:=q
   rw [hp] at h
   simp only at h ⊢
   cases hb:(x.okc && Nat.beq x.cells.length size && Nat.ble (off+size) cells.length) with
   |false=>rw [hb] at h;simp at h
   |true=>
    rw [hb] at h
    simp only [Bool.and_eq_true] at hb
    have hl:∀ l:List SV,(SV.evs ρ l).length=l.length:=fun l=>by simp [v8]
    rw [qxd ρ x hb.1.1,← qod,hl,hl,hb.1.2,hb.2,← q56]
    exact qwd ρ place rest _ cs h
def qm4 (N:Nat) (sl:List (Nat×SV)):List (Nat×Operand)→Option (List (Nat×SV))
 | []=>some []
 |(i,x)::r=>match sval N sl x,qm4 N sl r with
  |some v,some l=>some ((i,v)::l)
  | _,_=>none
theorem qh4 {ρ t:Nat→AV} {S:List AObj} {df:List Nat} (h:SlOk ρ t sl):∀ {xs:List (Nat×Operand)} {l:List (Nat×SV)},qm4 N sl xs=some l→(xs.map fun x=>(x.1,qj N ⟨t,S,df⟩ x.2))=l.map fun q=>(q.1,q.2.ev ρ)
 | [],l,hx=>by simp only [qm4,Option.some.injEq] at hx;subst hx;rfl
 |(i,x)::r,l,hx=>by
  simp only [qm4] at hx
  split at hx
  ·rename_i v l' h1 h2
   simp only [Option.some.injEq] at hx
   subst hx
   simp only [List.map_cons,q8 h h1,qh4 h h2]
  ·simp at hx
def qvw (P:Program) (N:Nat) (sl:List (Nat×SV)) (nx:Nat) (k:Ef→Prop) (t:TypeId) (parts:Array (Nat×Operand)):Prop:=
 match qg4 P t,qse P t,qm4 N sl parts.toList with
 |some zs,some pl,some ps=>(match qqf (pl[·]?) (nfs zs) ps with
  |some cs=>k (vr nx (.ag cs))
  |none=>False)
 | _,_,_=>False
theorem q7e {t:TypeId} {parts:Array (Nat×Operand)} (h:qvw E.P N sl nx k t parts):∃ e,Loc E N ops ⟨d,.build t parts,T,p,af,none⟩ nx sl H e∧k e:=by
 unfold qvw at h
 split at h
 ·rename_i zs pl ps hz hp hs
  split at h
  ·rename_i cs hf
   refine⟨_,jf (v:=.ag cs) fun df rd K rest ρ t' S ho hk=>vd hz hp (cs:=SV.evs ρ cs) ?_ hk,h⟩
   have:=qwd ρ _ _ _ _ hf
   rw [qhw] at this
   unfold vl
   rw [qh4 ho hs]
   exact this
  ·exact h.elim
 ·exact h.elim
def qki (sz:Nat) (agg:Bool) (off:Nat) (cs:List SV):Option SV:=
 bif agg then (bif Nat.ble (off+sz) cs.length then some (.ag ((cs.drop off).take sz)) else none) else cs[off]?
theorem qor (ρ : Nat→AV) {sz:Nat} {agg:Bool} {off:Nat} {cs:List SV} {v:SV} (h:qki sz agg off cs=some v):jk sz agg off (SV.evs ρ cs)=some (v.ev ρ):=by
 unfold qki at h
 unfold jk
 cases agg with
 |true=>
  simp only [cond_true] at h ⊢
  rw [v8,List.length_map]
  cases hb:Nat.ble (off+sz) cs.length with
  |false=>rw [hb] at h;simp at h
  |true=>
   rw [hb] at h
   simp only [cond_true,Option.some.injEq] at h ⊢
   subst h
   simp [SV.ev,v8]
 |false=>
  simp only [cond_false] at h ⊢
  rw [v8,List.getElem?_map,h]
  rfl
def optW (nx:Nat) (ks:List Nat) (k:Ef→Prop):Option SV→Prop
 |some v=>k ⟨v,ks,[],nx⟩
 |none=>False
def q2d (P:Program) (H:Nat→Option SR) (nx:Nat) (k:Ef→Prop) (t:TypeId):Option SV→Prop
 |some (.bx b off)=>(match H b,tyOf P t with
  |some (.cells _ cs),some (sz,agg)=>optW nx [b] k (qki sz agg off cs)
  | _,_=>False)
 |some (.a (.pp cs))=>(match tyOf P t with
  |some (sz,agg)=>(match jk sz agg 0 cs with
   |some r=>k (vr nx (nf r))
   |none=>False)
  |none=>False)
 | _=>False
theorem zbk {t:TypeId} {x:Operand} (h:q2d E.P H nx k t (sval N sl x)):∃ e,Loc E N ops ⟨d,.load t x,T,p,af,none⟩ nx sl H e∧k e:=by
 unfold q2d at h
 split at h
 ·rename_i b off hv
  split at h
  ·rename_i T' cs sz agg hH ht
   cases hl:qki sz agg off cs with
   |none=>rw [hl] at h;exact h.elim
   |some v=>
    rw [hl] at h
    refine⟨_,ya fun df rd K rest ρ t' S hs hS hk=>?_,h⟩
    obtain⟨o,ver,h1,h2,h0⟩:=hS.ok b _ ((yo b).trans hH)
    exact ka (o:=o) (ver:=ver) (off:=off) ((q8 hs hv).trans (by simp only [SV.ev,h1,bxAt])) h2 ht (qor ρ hl) hk
  ·exact h.elim
 ·rename_i cs hv
  split at h
  ·rename_i sz agg ht
   split at h
   ·rename_i r hr
    exact⟨_,jf fun df rd K rest ρ t' S hs hk=>zo (q8 hs hv) ht hr (by rw [← qkl ρ r];exact hk),h⟩
   ·exact h.elim
  ·exact h.elim
 ·exact h.elim
def qx3 (P:Program) (H:Nat→Option SR) (nx:Nat) (k:Ef→Prop) (t:TypeId):Option SV→Option SV→Prop
 |some (.bx b off),some v=>(match H b,tyOf P t with
  |some (.cells T cs),some (sz,agg)=>bif v.okc && Nat.beq v.cells.length sz && ones v.cells && Nat.ble (off+sz) cs.length then k ⟨.a (.v undef),[b],[(b,some (.cells T (spl cs off v.cells)))],nx⟩ else False
  | _,_=>False)
 | _,_=>False
theorem q9n {t:TypeId} {x y:Operand} (h:qx3 E.P H nx k t (sval N sl x) (sval N sl y)):∃ e,Loc E N ops ⟨d,.store t x y,T,p,af,none⟩ nx sl H e∧k e:=by
 unfold qx3 at h
 split at h
 ·rename_i b off v hv hy
  split at h
  ·rename_i T' cs sz agg hH ht
   cases hb:(v.okc && Nat.beq v.cells.length sz && ones v.cells && Nat.ble (off+sz) cs.length) with
   |false=>rw [hb] at h;exact h.elim
   |true=>
    rw [hb] at h
    simp only [Bool.and_eq_true] at hb
    refine⟨_,fun df rd K rest ρ t' S hs hS hk=>?_,h⟩
    obtain⟨o,ver,h1,h2,h0⟩:=hS.ok b _ ((yo b).trans hH)
    have hl:∀ l:List SV,(SV.evs ρ l).length=l.length:=fun l=>by simp [v8]
    refine qef (o:=o) (ver:=ver) (off:=off) (xs:=SV.evs ρ v.cells) ((q8 hs hv).trans (by simp only [SV.ev,h1,bxAt])) (q8 hs hy) h2 ht (qxd ρ v hb.1.1.1) (qod ρ v).symm (by rw [hl];exact Nat.eq_of_beq_eq_true hb.1.1.2) (q0l ρ _ hb.1.2) (by rw [hl];exact Nat.le_of_ble_eq_true hb.2) ?_
    rw [← q56]
    have key:∀ k r,chF [(b,some (.cells T' (spl cs off v.cells)))] (resF [b] H) k=some r→k=b∧r = .cells T' (spl cs off v.cells):=fun k r hk=>by
     simp only [chF,lkS] at hk
     by_cases e:b=k
     ·subst e
      have:Nat.beq b b=true:=by simp
      rw [this] at hk
      simp only [cond_true,Option.some.injEq] at hk
      exact⟨rfl,hk.symm⟩
     ·rw [jx e] at hk
      have:=(wj hk).1
      simp only [memN,List.any_cons,List.any_nil,Bool.or_false] at this
      exact absurd (Nat.eq_of_beq_eq_true this).symm e
    refine hk ρ _ ⟨fun _ _=>rfl,⟨fun k r hk=>?_,fun k k' r r' hne g1 g2=>?_⟩,by simp,fun j hj hne=>?_,fun k r hk o' ho'=>?_⟩
    ·obtain⟨rfl,rfl⟩:=key k r hk
     exact⟨o,ver,h1,qcm h2,h0⟩
    ·exact absurd ((key k r g1).1.trans (key k' r' g2).1.symm) hne
    ·have:=hne b _ ((yo b).trans hH)
     rw [h1] at this
     exact List.getElem?_set_ne (fun e=>this (by rw [e];rfl))
    ·obtain⟨rfl,rfl⟩:=key k r hk
     exact .inr ⟨k,_,(yo k).trans hH,ho'⟩
  ·exact h.elim
 ·exact h.elim
def qw1 (nx:Nat) (k:Ef→Prop):Option SV→Prop
 |some (.bx b off)=>k (vr nx (.bx b off))
 |some (.a (.pp cs))=>k (vr nx (.a (.pp cs)))
 | _=>False
theorem q8n {x:Operand} (h:qw1 nx k (sval N sl x)):∃ e,Loc E N ops ⟨d,.nilCheck x,T,p,af,none⟩ nx sl H e∧k e:=by
 unfold qw1 at h
 split at h
 ·rename_i b off hv
  exact⟨_,jf fun df rd K rest ρ t' S hs hk=>v6 (q8 hs hv) (by simp only [SV.ev];cases ρ b <;> rfl) hk,h⟩
 ·rename_i cs hv
  exact⟨_,jf fun df rd K rest ρ t' S hs hk=>v6 (q8 hs hv) rfl hk,h⟩
 ·exact h.elim
end
end Go.Av
