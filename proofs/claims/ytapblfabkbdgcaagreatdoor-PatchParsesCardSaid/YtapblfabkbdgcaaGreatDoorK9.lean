/- Contracts and plain facts that the closing text leans on (part 9). No condition of their own beyond those that each states. -/
import Derived.Test.YtapblfabkbdgcaaGreatDoorK8
set_option maxRecDepth 100000
set_option linter.unusedVariables false
set_option linter.unusedSimpArgs false
namespace Go.Pl
open Go
def i64 (n:Int):Prop:= -9223372036854775808≤n∧n≤9223372036854775807
end Go.Pl
namespace Go.Pl
open Go Go.Proofs Go.Proofs.YtapblfabkbdgcaaGreatDoor
theorem q9e (p:qc):∀ ls:List (qc×Bool),lsum ls≤(indF p ls).length
 | []=>by simp [lsum]
 |x::r=>by
  have ih:=q9e p r;unfold lsum indF at ih ⊢;simp only [List.map_cons,List.sum_cons,List.flatMap_cons,List.length_append];omega
theorem zib (x:qp):(z7 x.fields).length≤(jm x).length:=by
 have h1:=q9e [32,32] (zj (z7 x.fields));rw [(qcx _ _ (Nat.le_refl _)).1] at h1;unfold jm x6;simp only [List.length_append];omega
def wE (es:List EntV):Nat:=(es.map fun e=>e.x.raw.length).sum
theorem qtp (a b:List EntV):wE (a++b)=wE a+wE b:=by simp [wE]
theorem quy (e:EntV) (b:List EntV):wE (e::b)=e.x.raw.length+wE b:=by simp [wE]
theorem qtq (es:List EntV) (i:Nat):wE es=wE (es.take i)+wE (es.drop i):=by rw [← qtp,List.take_append_drop]
theorem q44 (es:List EntV) (i:Nat):wE (es.drop (i+1))≤wE (es.drop i):=by
 have:=qtq (es.drop i) 1;rw [List.drop_drop] at this;omega
theorem q45:∀ es:List EntV,(ji (es.map fun e=>e.x)).length=wE es
 | []=>by simp [ji,wE]
 |e::r=>by
  have ih:=q45 r;rw [quy,List.map_cons];unfold ji at ih ⊢;rw [List.flatMap_cons,List.length_append,ih]
theorem zgx (fs:List Fld):(xj fs).raw.length≤(z7 fs).length:=by
 unfold xj;split
 ·exact Nat.le_refl _
 ·simp
theorem zi1 (l:q9) (x:qp):wE (oneF l x).2.2.ents≤wE l.ents+(z7 x.fields).length:=by
 have hp:=zgx x.fields;unfold oneF;split
 ·unfold xg
  split
  ·simp only;omega
  ·split
   ·unfold qhl
    split
    ·rename_i e he
     obtain⟨d6,_⟩:=List.getElem?_eq_some_iff.1 he;simp only;rw [List.set_eq_take_append_cons_drop,if_pos d6,qtp,quy];have h1:=qtq l.ents (atF l x.id).toNat;have h2:=q44 l.ents (atF l x.id).toNat;simp only;omega
    ·simp only;omega
   ·simp only;omega
 ·split
  ·unfold delF
   split
   ·simp only;omega
   ·unfold delL
    simp only;rw [qtp];have h1:=qtq l.ents (atF l x.id).toNat;have h2:=q44 l.ents (atF l x.id).toNat;omega
  ·unfold insF
   split
   ·simp only;omega
   ·split
    ·split
     ·simp only;omega
     ·unfold insL
      simp only;rw [qtp,quy];have h1:=qtq l.ents (atF l x.id+1).toNat;simp only;omega
    ·simp only;omega
theorem qy4:∀ (b:List qp) (k:Nat) (l:q9) (ids:List Int),wE (wc k b l ids).2.1.ents≤wE l.ents+(encF b).length
 | [],k,l,ids=>by simp [wc]
 |x::r,k,l,ids=>by
  have h1:=zi1 l x;have h2:=zib x;have h3:(encF (x::r)).length=(jm x).length+(encF r).length:=by simp [encF]
  unfold wc;split
  ·have:=qy4 r (k+1) (oneF l x).2.2 (if 0<(oneF l x).1 then ids++[(oneF l x).1] else ids)
   omega
  ·simp only;omega
theorem zjn (l:q9) (b:List qp):wE (doF l b).2.1.ents≤wE l.ents+(encF b).length:=by
 unfold doF;split
 ·exact qy4 b 0 l []
 ·simp only;omega
theorem zc5 (l:q9) (x:za):wE (wp l x).ents=wE l.ents+x.raw.length:=by
 unfold wp;split <;> simp [wE]
theorem q0h:∀ (its:List za) (l:q9),wE (its.foldl wp l).ents=wE l.ents+(ji its).length
 | [],l=>by simp [ji]
 |x::r,l=>by
  rw [List.foldl_cons,q0h r,zc5];have:(ji (x::r)).length=x.raw.length+(ji r).length:=by simp [ji]
  omega
theorem zik (text:qc):(ji (itsE text)).length≤2 * text.length:=by
 unfold itsE;split
 ·simp [ji]
 ·have h:=q4x text.length text 0 0 p0 (Nat.le_refl _) qxv ⟨by simp [p0,ji,zf],by simp [p0]⟩ (by omega)
  unfold jj;split
  ·simp [ji]
  ·have:=h.tot
   simp only;omega
theorem q3t:∀ (its:List za) (p:Bool),(ji (jz p its)).length≤(ji its).length+its.length
 | [],p=>by simp [jz,ji]
 |x::r,p=>by
  have ih:=q3t r (decide (x.kind≠1));unfold ji at ih ⊢;rw [jz,List.flatMap_append,List.length_append,List.flatMap_cons,List.length_append,List.length_cons];have h:((if p=true∧x.kind≠1 then [⟨1,[10],[]⟩,x] else [x]:List za).flatMap fun x=>x.raw).length≤x.raw.length+1:=by split <;> simp
  omega
theorem q9g:∀ its:List za,(∀ x∈its,yf x)→its.length≤(ji its).length
 | [],_=>by simp
 |x::r,h=>by
  have ih:=q9g r fun y hy=>h y (by simp [hy])
  have hx:0<x.raw.length:=by
   rcases qj2 (h x (by simp)) with⟨_,t,rfl,_⟩ | ⟨_,h1,_⟩
   ·simp
   ·exact List.length_pos_iff.2 h1
  unfold ji at ih ⊢;rw [List.flatMap_cons,List.length_append,List.length_cons];omega
theorem zhl {l:q9} (h:GL l):(qap l).length≤2 * wE l.ents:=by
 have h1:=q3t (jc l) false
 have h2:=q9g (jc l) fun x hx=>by
  obtain⟨e,he,rfl⟩:=List.mem_map.1 hx;exact (h.ok e he).1
 have h3:=q45 l.ents;unfold qap y8;unfold jc at *;omega
end Go.Pl
namespace Go.Av
open Go Go.RowKit
section
variable {B0 : Nat} {w0 : World} {G : Gh} {st : List AObj} {w : World}
theorem zi.recell (h:zi B0 w0 G st w) {o ver:Nat} {T:TypeId} {cs cs':List AV} (ho:st[o]? = some (.cells ver T cs)) (hl:cs'.length=cs.length)
  (hr:∀ (i:Nat) (x x':AV) (v:Value),cs[i]? = some x→cs'[i]? = some x'→Rel G x v→Rel G x' v):zi B0 w0 G (st.set o (.cells ver T cs')) w:=by
 obtain⟨h0,h1,h2,h3,c,h4,h5,h6⟩:=h.ob o _ ho;refine⟨h.below,h.hB,by simp [h.n],h.pub,fun k x hx=>?_,fun k k' x x' b8 hx e7 o7 ck=>?_⟩
 ·rcases getElem?_set' _ _ _ _ _ hx with⟨rfl,rfl⟩ | ⟨b8,hx⟩
  ·refine⟨h0,h1,h2,h3,c,h4,by omega,fun i x y hx hy=>?_⟩
   have hi:i<cs.length:=by have:=lt_of_getElem? hx;omega
   exact hr i _ x y (List.getElem?_eq_getElem hi) hx (h6 i _ y (List.getElem?_eq_getElem hi) hy)
  ·exact h.ob k x hx
 ·rcases getElem?_set' _ _ _ _ _ hx with⟨e1,e2⟩ | ⟨_,e2⟩
  ·rcases getElem?_set' _ _ _ _ _ e7 with⟨e3,_⟩ | ⟨_,e4⟩
   ·exact absurd (e1.trans e3.symm) b8
   ·rw [e1];exact h.sep o k' _ x' (fun e=>b8 (e1.trans e)) ho e4 trivial ck
  ·rcases getElem?_set' _ _ _ _ _ e7 with⟨e3,_⟩ | ⟨_,e4⟩
   ·rw [e3];exact h.sep k o x _ (fun e=>b8 (e.trans e3.symm)) e2 ho o7 trivial
   ·exact h.sep k k' x x' b8 e2 e4 o7 ck
end
theorem zd4 {α : Type} {A B:List α} {x x' u u' : α} {i:Nat} (h:(A++x::B)[i]? = some u) (h':(A++x'::B)[i]? = some u'):u=u'∨(u=x∧u'=x'):=by
 rcases Nat.lt_trichotomy i A.length with hi|hi|hi
 ·rw [List.getElem?_append_left hi] at h h'
  rw [h] at h';exact .inl (Option.some.inj h')
 ·subst hi
  rw [List.getElem?_append_right (Nat.le_refl _),Nat.sub_self] at h h';simp at h h';exact .inr ⟨h.symm,h'.symm⟩
 ·obtain⟨j,hj⟩:∃ j,i - A.length=j+1:=⟨i - A.length - 1,by omega⟩
  rw [List.getElem?_append_right (by omega),hj,List.getElem?_cons_succ] at h h';rw [h] at h';exact .inl (Option.some.inj h')
theorem qr1 (ρ : Nat→AV) (a b:List SV):SV.evs ρ (a++b)=SV.evs ρ a++SV.evs ρ b:=by simp [km]
theorem zch {xs:List AV} (h:∀ x∈xs,x.one=true):flat xs=xs:=by
 unfold flat
 induction xs with
 |nil=>rfl
 |cons a r ih=>rw [List.flatMap_cons,ih fun x hx=>h x (by simp [hx]),qjh (h a (by simp))];rfl
theorem zdx {E:Env} {rd:Option Nat} {N:Nat} {B:Bs} {c:Code} {Q:Exit→Conf→Prop} {C:Conf} {b r sz:Nat} {T T2:TypeId} {zs:List AV} {ys:List AV} (hb:hpF C.hp b=some (.rows T zs [.tp r])) (hr:hpF C.hp r=some (.own sz T2 ys)) (hy:ys≠[])
  (h:Sm E rd N B c Q ⟨C.sl,(b,some (.rows T (zs++[.sl sz ys none]) []))::(r,none)::C.hp,C.nx⟩):Sm E rd N B c Q C:=⟨fun s hs=>by
 obtain⟨t,S,df⟩:=s;obtain⟨ρ,hF,hR⟩:=hs;simp only at hF hR;have hbr:b≠r:=fun e=>by subst e;rw [hb] at hr;simp at hr
 rcases hR.hp.ok r _ hr with⟨e,_⟩ | ⟨o,ver,cap,pad,f1,f2,f3,f4,f5,f6⟩
 ·exact absurd e hy
 rcases hR.hp.ok b _ hb with⟨e,_⟩ | ⟨o2,ver2,cap2,pad2,g1,g2,g3,g4,g5,g6⟩
 ·simp [SV.evs] at e
 have pf:tpAt (ρ r) = ρ r:=by rw [f1];rfl
 have fb:zs++SV.evs ρ [.tp r]=zs++[ρ r]:=by simp [SV.evs,SV.ev,pf]
 have hev2:(zs++[.sl sz ys none])++SV.evs ρ []=zs++[.sl sz ys none]:=by simp [SV.evs]
 rw [fb] at g1 g2 g3 g4 g5;have hfa:flat (zs++[ρ r])++pad2=flat (zs) ++ ρ r::pad2:=by rw [wg,f1];simp [flat,AV.cells]
 have hfb:flat (zs++[.sl sz ys none])++pad2=flat (zs) ++ .sl sz ys none::pad2:=by rw [wg];simp [flat,AV.cells]
 have hoo:o≠o2:=fun e=>hR.hp.sep r b _ _ (fun e=>hbr e.symm) hr hb o (by rw [f1];rfl) (by rw [g1,e];rfl)
 have c9:∀ k x,hpF ((b,some (.rows T (zs++[.sl sz ys none]) []))::(r,none)::C.hp) k=some x→(k=b∧x = .rows T (zs++[.sl sz ys none]) [])∨(k≠b∧k≠r∧hpF C.hp k=some x):=fun k x hk=>by
  unfold hpF at hk ⊢;simp only [lkS] at hk;by_cases e:b=k
  ·subst e
   simp at hk;exact .inl ⟨rfl,hk.symm⟩
  ·rw [jb e] at hk
   by_cases e2:r=k
   ·subst e2;simp at hk
   ·rw [jb e2] at hk
    exact .inr ⟨fun h=>e h.symm,fun h=>e2 h.symm,hk⟩
 have s8:∀ k x,k≠b→k≠r→hpF C.hp k=some x→∀ j,zl (ρ k)=some j→o≠j∧o2≠j:=fun k x h1 h2 hk j hj=>
  ⟨fun e=>hR.hp.sep k r _ _ h2 hk hr j hj (by rw [f1,← e];rfl),fun e=>hR.hp.sep k b _ _ h1 hk hb j hj (by rw [g1,← e];rfl)⟩
 have s7:∀ j,o≠j→o2≠j→((S.set o .dead).set o2 (.cells ver2 T (flat (zs++[.sl sz ys none])++pad2)))[j]? = S[j]?:=fun j h1 h2=>by rw [List.getElem?_set_ne h2,List.getElem?_set_ne h1]
 have g2':(S.set o .dead)[o2]? = some (.cells ver2 T (flat (zs++[ρ r])++pad2)):=(List.getElem?_set_ne hoo).trans g2
 have hP:SatR B.S0 B.F ⟨C.sl,(b,some (.rows T (zs++[.sl sz ys none]) []))::(r,none)::C.hp,C.nx⟩ ρ t ((S.set o .dead).set o2 (.cells ver2 T (flat (zs++[.sl sz ys none])++pad2))):=by
  refine⟨hR.sl,⟨fun k x hk=>?_,fun k k' x x' b8 hk m0=>?_⟩,fun k x hk j hj=>?_,fun j hj hFj=>?_,by simpa using hR.len,hR.wsl,fun k x hk=>?_⟩
  ·rcases c9 k x hk with⟨rfl,rfl⟩ | ⟨n1,n2,hk⟩
   ·show OwnS _ 1 T ((zs++[.sl sz ys none])++SV.evs ρ []) (ρ k)
    rw [hev2];refine .inr ⟨o2,ver2,cap2,pad2,by rw [g1];simp,x3 g2',?_,fun y hy=>?_,by simpa using g5,g6⟩
    ·rw [hfb]
     rw [hfa] at g3
     simpa using g3
    ·rcases List.mem_append.1 hy with h|h
     ·exact g4 y (by simp [h])
     ·simp only [List.mem_singleton] at h
      subst h;rfl
   ·refine SR.ok_of (f:=fun _=>true) (SR.all_mono (fun _ _=>rfl) x (hR.whp k x hk).2) (fun _ _=>rfl) (hR.hp.ok k x hk) fun j hj=>?_
    obtain⟨q1,q2⟩:=s8 k x n1 n2 hk j hj;exact s7 j q1 q2
  ·rcases c9 k x hk with⟨rfl,rfl⟩ | ⟨n1,n2,q1⟩
   ·rcases c9 k' x' m0 with⟨rfl,rfl⟩ | ⟨m1,m2,q2⟩
    ·exact absurd rfl b8
    ·exact hR.hp.sep _ _ _ _ b8 hb q2
   ·rcases c9 k' x' m0 with⟨rfl,rfl⟩ | ⟨m1,m2,q2⟩
    ·exact hR.hp.sep _ _ _ _ b8 q1 hb
    ·exact hR.hp.sep _ _ _ _ b8 q1 q2
  ·rcases c9 k x hk with⟨rfl,rfl⟩ | ⟨n1,n2,hk⟩
   ·exact hR.own _ _ hb j hj
   ·exact hR.own _ _ hk j hj
  ·refine (s7 j (fun e=>?_) (fun e=>?_)).trans (hR.low j hj hFj)
   ·rcases hR.own r _ hr o (by rw [f1];rfl) with q|q
    ·omega
    ·exact hFj (e▸q)
   ·rcases hR.own b _ hb o2 (by rw [g1];rfl) with q|q
    ·omega
    ·exact hFj (e▸q)
  ·rcases c9 k x hk with⟨rfl,rfl⟩ | ⟨n1,n2,hk⟩
   ·exact⟨(hR.whp _ _ hb).1,rfl⟩
   ·exact hR.whp k x hk
 have tn:=h.run ⟨t,(S.set o .dead).set o2 (.cells ver2 T (flat (zs++[.sl sz ys none])++pad2)),df⟩ ⟨ρ,⟨fun x hx=>?_,hF.nd,hF.rig,hF.le,hF.dz⟩,hP⟩
 ·exact⟨fun B0 w0 G a w hL hI=>by
   obtain⟨vs,d5,hA,hv,hp,ck,dk⟩:=hI.agree.pubOb f2
   have bp:=hA.recell (cs':=flat (zs++[.sl sz ys none])++pad2) g2' (by rw [hfa,hfb];simp) fun i x x' v hx e7 hv2=>by
    rw [hfa] at hx;rw [hfb] at e7;rcases zd4 hx e7 with rfl | ⟨rfl,rfl⟩
    ·exact hv2
    ·rw [f1] at hv2
     cases hv2 with
     |os _ _ _ _ bl _ hn r7 gb=>
      have gb:=gb hv;subst gb;exact .sl sz ys none _ 0 (cap+1) vs hp f4 (by rw [← ck];simp) (fun k x y g1 g2=>dk k x y (by rw [List.getElem?_append_left (lt_of_getElem? g1)];exact g1) (by simpa using g2)) (fun t ht=>by simp at ht) f5
   exact wpIn_mono (tn.run B0 w0 _ a w hL (hI.restate d5 bp)) fun _ _ _ ⟨G',s',hG,k1,k2⟩=>⟨G',s',d5.trans hG,k1,k2⟩⟩
 ·have hm:=hF.dm x hx
  refine⟨?_,hm.2⟩;simp only;refine (s7 x (fun e=>?_) (fun e=>?_)).trans hm.1
  ·rw [← e] at hm
   rw [f2] at hm;simp at hm
  ·rw [← e] at hm
   rw [g2] at hm
   simp at hm⟩
theorem q3e {E:Env} {rd:Option Nat} {N:Nat} {B:Bs} {c:Code} {Q:Exit→Conf→Prop} {C:Conf} {b:Nat} {T:TypeId} {xs:List AV} (hb:hpF C.hp b=some (.rows T xs []))
  (h:Sm E rd N B c Q ⟨C.sl,(b,some (.own 1 T xs))::C.hp,C.nx⟩):Sm E rd N B c Q C:=⟨fun s hs=>by
 obtain⟨ρ,hF,hR⟩:=hs
 have c9:∀ k x,hpF ((b,some (.own 1 T xs))::C.hp) k=some x→(k=b∧x = .own 1 T xs)∨(k≠b∧hpF C.hp k=some x):=fun k x hk=>by
  unfold hpF at hk ⊢;simp only [lkS] at hk;by_cases e:b=k
  ·subst e
   simp at hk;exact .inl ⟨rfl,hk.symm⟩
  ·rw [jb e] at hk
   exact .inr ⟨fun h=>e h.symm,hk⟩
 have fb:∀ ρ,xs++SV.evs ρ []=xs:=fun ρ=>by simp [SV.evs]
 refine h.run s ⟨ρ,⟨hF.dm,hF.nd,hF.rig,hF.le,hF.dz⟩,⟨hR.sl,⟨fun k x hk=>?_,fun k k' x x' b8 hk m0=>?_⟩,fun k x hk j hj=>?_,hR.low,hR.len,hR.wsl,fun k x hk=>?_⟩⟩
 ·rcases c9 k x hk with⟨rfl,rfl⟩ | ⟨n1,hk⟩
  ·have:OwnS s.st 1 T (xs++SV.evs ρ []) (ρ k):=hR.hp.ok k _ hb
   rw [fb] at this;exact this
  ·exact hR.hp.ok k x hk
 ·rcases c9 k x hk with⟨rfl,rfl⟩ | ⟨n1,q1⟩
  ·rcases c9 k' x' m0 with⟨rfl,rfl⟩ | ⟨m1,q2⟩
   ·exact absurd rfl b8
   ·exact hR.hp.sep _ _ _ _ b8 hb q2
  ·rcases c9 k' x' m0 with⟨rfl,rfl⟩ | ⟨m1,q2⟩
   ·exact hR.hp.sep _ _ _ _ b8 q1 hb
   ·exact hR.hp.sep _ _ _ _ b8 q1 q2
 ·rcases c9 k x hk with⟨rfl,rfl⟩ | ⟨n1,hk⟩
  ·exact hR.own _ _ hb j hj
  ·exact hR.own _ _ hk j hj
 ·rcases c9 k x hk with⟨rfl,rfl⟩ | ⟨n1,hk⟩
  ·exact⟨(hR.whp _ _ hb).1,rfl⟩
  ·exact hR.whp k x hk⟩
section
variable {E : Env} {rd : Option Nat} {N : Nat} {ops : Array Oper} {K : AS → Prop} {s : AS} {rest : List Oper} {d : Option Tmp} {T : TypeId} {p : String} {af : Array Edge}
theorem qw5 {x y:Operand} {t u T':TypeId} {sz bytes o:Nat} {xs ys:List AV} {a b:AV} {ob:AObj} (hx:qj N s x=a) (hy:qj N s y=b) (l6:SrcA s.st sz b ys.length ys.length (flat ys)) (pj:∀ y∈ys,y.cells.length=sz) (hV:Vec sz T' o xs a ob) (ho:s.st[o]? = some ob)
  (ht:E.P.underlying t=some (.slice T')) (hu:E.P.underlying u=some (.slice T')) (hT:w7 E.P T' sz bytes) (l9:xs.length+ys.length≤maxLen) (hb:(xs.length+ys.length) * bytes≤140737488355328)
  (h:∀ a' ob',Vec sz T' o (xs++ys) a' ob'→AOps E rd N ops rest K (AS.put ⟨s.t,s.st.set o ob',s.df⟩ d a')):AOps E rd N ops (⟨d,.call ⟨.builtin .append,#[x,y],#[t,u]⟩,T,p,af,none⟩::rest) K s:=by
 refine q7 rfl (qy nofun fun B0 w0 G a0 w _ hI=>?_);obtain⟨news,h1,h2,h3⟩:=qos (P:=E.P) hI.agree l6 (hI.eval_of hy);obtain⟨v',w',G',a',ob',e1,e2,e3,e4,e5⟩:=qgx (ty:=T) hI.agree ht hu (.inr ⟨_,rfl⟩) hT hV ho (hI.eval_of hx) ⟨h1.len,h1.cells,h1.count,h1.one⟩ pj h3 l9 hb;refine⟨v',w',G',_,_,?_,e2,e3,e4,h a' ob' e5⟩;generalize a0.eval = ρ at e1;simp [execOp,resolve,invoke,builtin,e1]
theorem qw4 {x y:Operand} {t u T':TypeId} {sz bytes:Nat} {ys:List AV} {b:AV} (hx:∀ (G:Gh) (v:Value),Rel G (qj N s x) v→∃ base,v = .slice base 0 0) (hy:qj N s y=b) (l6:SrcA s.st sz b ys.length ys.length (flat ys)) (pj:∀ y∈ys,y.cells.length=sz)
  (ht:E.P.underlying t=some (.slice T')) (hu:E.P.underlying u=some (.slice T')) (hT:w7 E.P T' sz bytes) (h0:ys≠[]) (l9:ys.length≤maxLen) (hb:ys.length * bytes≤140737488355328)
  (h:∀ cap pad,(flat ys++pad).length=(cap+1) * sz→ys.length≤cap+1→cap+1≤maxLen→AOps E rd N ops rest K (AS.put ⟨s.t,s.st++[.cells 0 T' (flat ys++pad)],s.df⟩ d (.os s.st.length 0 0 ys.length (cap+1)))):AOps E rd N ops (⟨d,.call ⟨.builtin .append,#[x,y],#[t,u]⟩,T,p,af,none⟩::rest) K s:=by
 refine q7 rfl (qy nofun fun B0 w0 G a0 w _ hI=>?_);obtain⟨i,z,hi,hz,rfl,rfl,cm⟩:=hT.ex;obtain⟨news,hS,h2,h3⟩:=qos (P:=E.P) hI.agree l6 (hI.eval_of hy);have h1:Src E.P w (a0.eval y) ys.length i.size news:=⟨hS.len,hS.cells,hS.count,hS.one⟩;obtain⟨base,hv⟩:=hx _ _ (hI.eval x);have c8:0<ys.length:=List.length_pos_iff.2 h0
 have d9:(Builtin.firstCells i.size 0 (.slice base 0 0)).run E.P w.drew = .ok ([]:List Value).toArray w.drew:=by
  cases base with
  |none=>simp [run_firstCells_none]
  |some a=>exact run_firstCells_some w.drew i.size 0 a 0 0 [] (by simp) (by simp)
 have a8:=qc5 (ty:=T) ht hu (.inr ⟨_,rfl⟩) hi hz h1 base 0 0 [] d9 (by omega) (by simp only [maxLen] at l9;omega) (by simp only [Nat.zero_add];rw [nextslicecap_zero (by omega)];omega);simp only [Nat.zero_add] at a8;have cw:=grownCap_ge w ys.length 0 T';have d5:=grownCap_le_maxLen w ys.length 0 T' l9;generalize grownCap w ys.length 0 T'=cap at a8 cw d5;obtain⟨cap,rfl⟩:∃ c,cap=c+1:=⟨cap - 1,by omega⟩;generalize hzc:Builtin.zeroCells z.cells (cap+1 - ys.length)=zc at a8;have gp:zc.size=(cap+1 - ys.length) * i.size:=by rw [← hzc,size_zeroCells,cm]
 have mc:(flat ys).length=ys.length * i.size:=zo pj;have m6:Below w.heap.size w w.drew:=⟨rfl,rfl,rfl,Nat.le_refl _,fun _ _=>rfl⟩
 have hr:=yq (G:=G) (cs:=flat ys) (ds:=zc.toList.map AV.v) (vs:=news) (us:=zc.toList) (by rw [mc,h1.count]) h3 (fun j a b h1 h2=>by
  rw [List.getElem?_map,h2] at h1;simp at h1;subst h1
  exact .v _)
 have hA:=(hI.agree.fresh m6).newCells T' (([]:List Value).toArray++news.toArray++zc) (flat ys++zc.toList.map AV.v) (by simp [mc,h1.count]) (fun j a b q1 q2=>hr j a b q1 (by rw [← q2];simp [← Array.getElem?_toList]));have hn:=hI.agree.n;refine⟨_,_,_,_,_,?_,G.le_new _ _ _ _,hA,.os _ _ _ _ _ _ (by simp [Gh.new,hn]) (Nat.zero_le _) (fun _=>by simp [Gh.new,hn];rfl),h cap (zc.toList.map AV.v) ?_ cw d5⟩
 ·generalize a0.eval = ρ at a8 hv ⊢
  simp [execOp,resolve,invoke,builtin,hv,a8]
 ·have h1:zc.toList.length=(cap+1 - ys.length) * i.size:=by rw [← gp];simp
  rw [List.length_append,mc,List.length_map,h1,← Nat.add_mul];congr 1;omega
end
section
variable {E : Env} {N : Nat} {ops : Array Oper} {nx : Nat} {sl : List (Nat × SV)} {H : Nat → Option SR} {k : Ef → Prop} {d : Option Tmp} {T : TypeId} {p : String} {af : Array Edge}
theorem q67 {t e:TypeId} {parts:Array (Nat×Operand)} {v:SV} {agg:Bool} {zs:List AV} (hp:ql1 N sl parts.toList=some [(0,v)]) (hv:(v.one && v.okc && v.all (fun k=> !Nat.beq k nx))=true) (he:elT (E.P.underlying t)=some e) (ht:tyOf E.P e=some (1,agg)) (hz:qdy E.P e 1=some zs) (gp:zs.length=1)
  (h:k ⟨.tp nx,[],[(nx,some (.rows e [] [v]))],nx+1⟩):∃ e,Loc E N ops ⟨d,.buildSlice t 1 parts,T,p,af,none⟩ nx sl H e∧k e:=by
 simp only [Bool.and_eq_true] at hv;refine⟨_,qhw (fun k r hk=>by rw [qc4] at hk;simp at hk) fun df rd K rest ρ t' S hs _ hk=>?_,h⟩;have h1:=qun ρ v hv.1.1;have hc:=qjh h1;have hpa:vi N ⟨t',S,df⟩ parts=je 0 [v.ev ρ]:=by unfold vi;exact qfz hs hp
 have dr:=qk9 (sz:=1) [v.ev ρ] 0 [] zs (fun y hy=>by
  simp only [List.mem_singleton] at hy;subst hy
  exact⟨qsv ρ v hv.1.2,by rw [hc];rfl⟩) (by simp) (by simpa using gp)
 have i3:flat [v.ev ρ]=[v.ev ρ]:=by simp [flat,hc]
 rw [i3] at dr;refine yi (loc:=[]) (st:=S) (by simp) (ww he) ht hz (by rw [hpa];simpa using dr) (by decide) ?_
 have fb:∀ c,SV.evs (upd ρ nx c) [v]=[v.ev ρ]:=fun c=>by
  simp only [SV.evs];rw [qbi (f:=fun k=> !Nat.beq k nx) (ρ:= ρ) (ρ':=upd ρ nx c) (fun k hk=>w9 _ _ (fun e=>by subst e;simp at hk)) v hv.2]
 have:=hk (.os S.length 0 0 1 1) [.cells 0 e [v.ev ρ]]
  (by
   show OwnS _ 1 e (SV.evs (upd ρ nx (.os S.length 0 0 1 1)) [v]) _
   rw [fb];refine .inr ⟨S.length,0,0,[],rfl,by rw [i3];exact wh,by rw [i3];rfl,fun x hx=>?_,by simp,by simp [maxLen]⟩;simp only [List.mem_singleton] at hx;subst hx
   rw [hc];rfl)
  (fun o ho=>by simp only [zl,Option.some.injEq] at ho;omega)
 simpa [SV.ev,jq,tpAt,AV.one] using this
theorem q88 (ρ : Nat→AV) (zs:List AV) (cs:List SV):SV.evs ρ (zs.map SV.a++cs)=zs++SV.evs ρ cs:=by
 rw [qr1,km,List.map_map];congr 1
 conv=>rhs;rw [← List.map_id zs]
 exact List.map_congr_left fun x _=>rfl
theorem qjn {t e e':TypeId} {x y:Operand} {b i:Nat} {agg:Bool} {zs:List AV} {cs:List SV} {kd:IntKind} {v:SV} (hx:sval N sl x=some (.tp b)) (hH:H b=some (.rows e zs cs)) (hy:sval N sl y=some v) (hv:qan v=some (kd,(i:Int))) (he:elT (E.P.underlying t)=some e') (ht:tyOf E.P e'=some (1,agg)) (hi:i<zs.length+cs.length)
  (h:k ⟨.bx b (0+i * 1),[b],[],nx⟩):∃ e,Loc E N ops ⟨d,.indexAddr t x y,T,p,af,none⟩ nx sl H e∧k e:=by
 refine⟨_,xp (v:=.bx b (0+i * 1)) fun df rd K rest ρ t' S hs hS hk=>?_,h⟩;have c8:(zs++SV.evs ρ cs).length=zs.length+cs.length:=by rw [List.length_append,km,List.length_map]
 rcases hS.ok b _ ((wx b).trans hH) with⟨e0,_⟩ | ⟨o,ver,cap,pad,e1,e2,_⟩
 ·rw [e0] at c8
  simp at c8;omega
 ·refine qg3 (o:=o) (ver:=ver) (off:=0) (len:=(zs++SV.evs ρ cs).length) (cp:=cap+1) ((qv hs hx).trans (by simp [SV.ev,e1,tpAt,AV.one])) ((qv hs hy).trans (xo hv ρ)) (ww he) ht rfl (by omega) ?_
  simpa only [SV.ev,e1,bxAt] using hk
theorem qjo {t e:TypeId} {x:Operand} {b off i:Nat} {zs:List AV} {cs:List SV} {v:SV} (hx:sval N sl x=some (.bx b off)) (hH:H b=some (.rows e zs cs)) (ht:tyOf E.P t=some (1,false)) (ho:off=0+i * 1+0) (hz:(zs.map SV.a++cs)[i]? = some v) (e8:v.one=true)
  (h:k ⟨v,[b],[],nx⟩):∃ e,Loc E N ops ⟨d,.load t x,T,p,af,none⟩ nx sl H e∧k e:=by
 refine⟨_,xp (v:=v) fun df rd K rest ρ t' S hs hS hk=>?_,h⟩;have hz2:(zs++SV.evs ρ cs)[i]? = some (v.ev ρ):=by rw [← q88,km,List.getElem?_map,hz];rfl
 rcases hS.ok b _ ((wx b).trans hH) with⟨e0,_⟩ | ⟨o,ver,cap,pad,e1,e2,e3,e4,_⟩
 ·rw [e0] at hz2
  simp at hz2
 ·subst ho
  refine kf (o:=o) (ver:=ver) (off:=0+i * 1+0) ((qv hs hx).trans (by simp only [SV.ev,e1,bxAt])) e2 ht (qvx (sz:=1) e4 hz2 (by rw [qjh (qun ρ v e8)];rfl) (by omega) fun _=>by omega) hk
theorem q3d {x y:Operand} {t u e:TypeId} {b c bytes:Nat} {zs:List AV} {cs ds:List SV} (hx:sval N sl x=some (.tp b)) (hH:H b=some (.rows e zs cs)) (hy:sval N sl y=some (.tp c)) (hK:H c=some (.rows e [] ds)) (sc:(!Nat.beq b c && !Nat.beq b nx && !Nat.beq c nx && SV.alls (fun k=> !Nat.beq k nx) (cs++ds) && ones ds)=true) (hd:ds≠[])
  (ht:elT (E.P.underlying t)=some e) (hu:elT (E.P.underlying u)=some e) (hb:qrx E.P e=some (1,bytes)) (hn:(Nat.blt 0 bytes && Nat.ble bytes 140737)=true) (h1:zs.length+cs.length+ds.length≤1000000000)
  (h:k ⟨.tp nx,[b,c],[(b,none),(c,none),(nx,some (.rows e zs (cs++ds)))],nx+1⟩):∃ e,Loc E N ops ⟨d,.call ⟨.builtin .append,#[x,y],#[t,u]⟩,T,p,af,none⟩ nx sl H e∧k e:=by
 simp only [Bool.and_eq_true] at sc hn;obtain⟨⟨⟨⟨b1,b2⟩,b3⟩,b4⟩,b5⟩:=sc;have nbc:b≠c:=fun e=>by subst e;simp at b1
 have nbn:b≠nx:=fun e=>by subst e;simp at b2
 have ncn:c≠nx:=fun e=>by subst e;simp at b3
 have gb:=Nat.le_of_ble_eq_true hn.2;refine⟨_,fun df rd K rest ρ t' S hs hS hk=>?_,h⟩;have rb:resF [b,c] H b=some (.rows e zs cs):=by unfold resF;simp [memN,hH]
 have rc:resF [b,c] H c=some (.rows e [] ds):=by unfold resF;simp [memN,hK]
 have hlc:(zs++SV.evs ρ cs).length=zs.length+cs.length:=by rw [List.length_append,km,List.length_map]
 have hld:(SV.evs ρ ds).length=ds.length:=by rw [km,List.length_map]
 have hnil:([]:List AV)++SV.evs ρ ds=SV.evs ρ ds:=rfl;have hds:SV.evs ρ ds≠[]:=fun e=>by rw [e] at hld;exact hd (List.eq_nil_of_length_eq_zero (by simpa using hld.symm))
 have fg:((zs++SV.evs ρ cs).length+(SV.evs ρ ds).length) * bytes≤140737488355328:=by
  rw [hlc,hld];exact Nat.le_trans (Nat.mul_le_mul h1 gb) (by decide)
 have e8:=quf ρ ds b5;have hfd:flat (SV.evs ρ ds)=SV.evs ρ ds:=zch e8;rcases hS.ok c _ rc with⟨e0,_⟩ | ⟨o2,ver2,cap2,pad2,g1,g2,g3,g4,g5,g6⟩
 ·exact absurd e0 hds
 rw [hnil] at g1 g2 g3 g4 g5;have r9:qj N ⟨t',S,df⟩ y = .os o2 ver2 0 (SV.evs ρ ds).length (cap2+1):=(qv hs hy).trans (by simp [SV.ev,g1,tpAt,AV.one])
 have l6:SrcA S 1 (.os o2 ver2 0 (SV.evs ρ ds).length (cap2+1)) (SV.evs ρ ds).length (SV.evs ρ ds).length (flat (SV.evs ρ ds)):=by
  have ht0:((flat (SV.evs ρ ds)++pad2).drop (0 * 1)).take ((SV.evs ρ ds).length * 1)=flat (SV.evs ρ ds):=by
   rw [Nat.zero_mul,List.drop_zero,Nat.mul_one,hfd,List.take_left]
  have:=SrcA.os (st:=S) (sz:=1) o2 ver2 0 (SV.evs ρ ds).length (cap2+1) (SV.evs ρ ds).length e _ g2 (by rw [List.length_append,hfd];omega) (by
   rw [ht0,hfd]
   exact List.all_eq_true.2 e8)
  rw [ht0] at this;exact this
 have hok:=hS.ok b _ rb;have fb:qj N ⟨t',S,df⟩ x = ρ b:=(qv hs hx).trans (qc6 hok)
 have key:∀ k q,chF [(b,none),(c,none),(nx,some (SR.rows e zs (cs++ds)))] (resF [b,c] H) k=some q→k=nx∧q = .rows e zs (cs++ds):=fun k q hk=>by
  simp only [chF,lkS] at hk;by_cases e1:b=k
  ·subst e1;simp at hk
  ·rw [jb e1] at hk
   simp only [cond_false] at hk;by_cases e2:c=k
   ·subst e2;simp at hk
   ·rw [jb e2] at hk
    simp only [cond_false] at hk;by_cases e3:nx=k
    ·subst e3
     simp at hk;exact⟨rfl,hk.symm⟩
    ·rw [jb e3] at hk
     simp only [cond_false] at hk;have:=(vq hk).1;simp only [memN,List.any_cons,List.any_nil,Bool.or_false,Bool.or_eq_true] at this;rcases this with h|h
     ·exact absurd (Nat.eq_of_beq_eq_true h).symm e1
     ·exact absurd (Nat.eq_of_beq_eq_true h).symm e2
 have fin:∀ (a:AV) (S':List AObj),OwnS S' 1 e ((zs++SV.evs ρ cs)++SV.evs ρ ds) a→S.length≤S'.length→(∀ j,j<S.length→zl (ρ b)≠some j→S'[j]? = S[j]?)→(∀ o,zl a=some o→S.length≤o∨zl (ρ b)=some o)→AOps E rd N ops rest K (AS.put ⟨t',S',df⟩ d a):=fun a S' q1 q2 q3 q4=>by
  have hev2:zs++SV.evs (upd ρ nx a) (cs++ds)=(zs++SV.evs ρ cs)++SV.evs ρ ds:=by
   rw [yv (f:=fun k=> !Nat.beq k nx) (ρ:= ρ) (fun k hk=>w9 _ _ (fun e=>by subst e;simp at hk)) _ b4,qr1,List.append_assoc]
  have:=hk (upd ρ nx a) S' ⟨fun k hk=>w9 _ _ (by simp only at hk;omega),⟨fun k r hk=>?_,fun k k' r r' b8 z1 z2=>absurd ((key k r z1).1.trans (key k' r' z2).1.symm) b8⟩,q2,fun j hj b8=>q3 j hj (b8 b _ rb),fun k r hk o ho=>?_⟩
  ·simpa only [SV.ev,jq,qc6 q1] using this
  ·obtain⟨rfl,rfl⟩:=key k r hk
   rw [jq]
   show OwnS S' 1 e (zs++SV.evs (upd ρ k a) (cs++ds)) a
   rw [hev2];exact q1
  ·obtain⟨rfl,rfl⟩:=key k r hk
   rw [jq] at ho;exact (q4 o ho).imp_right fun h=>⟨b,_,rb,h⟩
 rcases hok with⟨e0,e1⟩ | ⟨o,ver,cap,pad,e1,e2,e3,e4,e5,e6⟩
 ·refine qw4 (by rw [fb];exact e1.val) r9 l6 g4 (ww ht) (ww hu) (qfp hb) hds (by simp only [maxLen];omega) (by rw [e0] at fg;simpa using fg) fun cap pad z1 z2 z3=>?_
  refine fin _ _ (.inr ⟨S.length,0,cap,pad,by rw [e0];rfl,?_,?_,?_,?_,z3⟩) (by simp) (fun j hj _=>List.getElem?_append_left hj) fun o ho=>.inl (by simp only [zl,Option.some.injEq] at ho;omega)
  ·rw [e0,List.nil_append];exact wh
  ·rw [e0,List.nil_append];exact z1
  ·rw [e0,List.nil_append];exact g4
  ·rw [e0,List.nil_append];exact z2
 ·refine qw5 (o:=o) (fb.trans e1) r9 l6 g4 (.os ver (cap+1) pad e3 e4 e5 e6) e2 (ww ht) (ww hu) (qfp hb) (by simp only [maxLen];omega) fg fun a' ob' hV=>?_
  rcases qto hV with⟨q,_,_⟩ | ⟨ver',cap',pad',rfl,rfl,q1,q2,q3,q4⟩
  ·simp [hds] at q
  ·obtain⟨cap',rfl⟩:∃ c,cap'=c+1:=⟨cap' - 1,by
    have:0<(SV.evs ρ ds).length:=List.length_pos_iff.2 hds;simp at q3
    omega⟩
   refine fin _ _ (.inr ⟨o,ver',cap',pad',rfl,x3 e2,q1,q2,q3,q4⟩) (by simp) (fun j hj b8=>List.getElem?_set_ne fun e=>b8 (by rw [e1,e];rfl)) fun o' d7=>.inr (by rw [e1];exact d7)
end
end Go.Av
namespace Go.Av
open Go Go.RowKit
section
variable {E : Env} {N : Nat} {ops : Array Oper} {nx : Nat} {sl : List (Nat × SV)} {H : Nat → Option SR} {k : Ef → Prop} {d : Option Tmp} {T : TypeId} {p : String} {af : Array Edge}
theorem zgj {ts:Array TypeId} {x y z:Operand} {u v w:SV} {a b c:Int} (hx:sval N sl x=some u) (hy:sval N sl y=some v) (hz:sval N sl z=some w) (ia:qan u=some (.i64,a)) (ib:qan v=some (.i64,b)) (ic:qan w=some (.i64,c))
  (h:k (vu nx (.i (min (min a b) c)))):∃ e,Loc E N ops ⟨d,.call ⟨.builtin .min,#[x,y,z],ts⟩,T,p,af,none⟩ nx sl H e∧k e:=by
 refine⟨_,z8 (v:=.i (min (min a b) c)) fun df rd K rest ρ t' S hs hk=>z0 (.int .i64 (min (min a b) c)) rfl nofun (fun a' w' he=>by
  have e1:=he _ _ ((qv hs hx).trans (xo ia ρ));have e2:=he _ _ ((qv hs hy).trans (xo ib ρ));have e3:=he _ _ ((qv hs hz).trans (xo ic ρ));by_cases h1:b<a
  ·have e4:min a b=b:=by omega
   by_cases h2:c<b
   ·have e5:min (min a b) c=c:=by omega
    rw [e5];simp [execOp,resolve,invoke,builtin,Builtin.min_,Builtin.min2,e1,e2,e3,h1,h2]
   ·have e5:min (min a b) c=b:=by omega
    rw [e5];simp [execOp,resolve,invoke,builtin,Builtin.min_,Builtin.min2,e1,e2,e3,h1,h2]
  ·have e4:min a b=a:=by omega
   by_cases h2:c<a
   ·have e5:min (min a b) c=c:=by omega
    rw [e5];simp [execOp,resolve,invoke,builtin,Builtin.min_,Builtin.min2,e1,e2,e3,h1,h2]
   ·have e5:min (min a b) c=a:=by omega
    rw [e5]
    simp [execOp,resolve,invoke,builtin,Builtin.min_,Builtin.min2,e1,e2,e3,h1,h2]) hk,h⟩
end
end Go.Av
namespace Go.Av
open Go Go.RowKit
theorem ix64 {n m:Int} (h:n=m):qan (.i n)=some (IntKind.i64,m):=by rw [h];rfl
def q68 (H:Nat→Option SR):List (Nat×Option SR)→Prop
 | []=>True
 |(k,r)::l=>H k=r∧q68 H l
theorem qws {H:Nat→Option SR}:∀ {hp:List (Nat×Option SR)},q68 H hp→resF (j7 hp) H=hpF hp
 | [],_=>by funext k;simp [resF,j7,memN,hpF,lkS]
 |(i,r)::l,h=>by
  have ih:=congrFun (qws h.2);funext k;have:=ih k;unfold resF memN j7 hpF at this ⊢;simp only [List.map_cons,List.any_cons,lkS];by_cases e:i=k
  ·subst e
   simp [h.1]
  ·rw [jb e,jb fun h=>e h.symm,Bool.false_or,cond_false]
   exact this
theorem ze8 {E:Env} {f:FuncId} {vs:List SV} {l8:List (Nat×Option SR)} {nx0 nx:Nat} {v:SV} {H:Nat→Option SR} (h:ko E f vs nx0 (hpF l8) ⟨v,j7 l8,l8++vh l8,nx0⟩) (hs:q68 H l8) :
  ko E f vs nx H ⟨v,j7 l8,[],nx⟩:=fun ρ S hS=>by
 have hr:=qws hs;simp only [hr] at hS;refine (h ρ S (by simpa only [v8] using hS)).mono ?_;rintro r S' ⟨ρ',rfl,hp⟩;have e : ρ' = ρ:=funext fun k=>hp.old k (by simp only;omega);subst e;refine⟨ρ',rfl,fun _ _=>rfl,?_,hp.len,fun j hj hn=>?_,fun k r hk o ho=>?_⟩
 ·have:=hp.sat
  simp only [v8,qem] at this;have e2:chF [] (resF (j7 l8) H)=hpF l8:=by rw [hr];rfl
  simp only [e2];exact this
 ·refine hp.fr j hj fun k r hk=>?_
  simp only [v8] at hk;exact hn k r (by simp only [hr];exact hk)
 ·have e2:chF [] (resF (j7 l8) H)=hpF l8:=by rw [hr];rfl
  simp only [e2] at hk;exact .inr ⟨k,r,by simp only [hr];exact hk,ho⟩
structure LocK (E:Env) (N:Nat) (l:List Oper) (o:Oper) (nx:Nat) (sl:List (Nat×SV)) (H:Nat→Option SR) (k:Ef→Prop):Prop where
 ex:∃ e,Loc E N l.toArray o nx sl H e∧k e
def q7n (E:Env) (N:Nat) (l:List Oper):Nat→List Oper→List Tr→(List Tr→Conf→Prop)→Conf→Prop
 | _,[],tr,K,C=>K tr C
 |i,o::r,tr,K,⟨sl,hp,nx⟩=>LocK E N l o nx (rs (rdOf l o) sl) (hpF hp) (gdW (isGd i l) (fcE fun e=>qsq sl hp nx o.dst (q7n E N l (i+1) r (tr++[⟨rdOf l o,o.dst,e,nx⟩]) K) e))
theorem q11 {E:Env} {N:Nat} {l:List Oper} {C0:Conf} {K:List Tr→Conf→Prop}:∀ {r:List Oper} {i:Nat} {tr:List Tr} {C:Conf},(∀ k,r[k]? = l[i+k]?)→tr.length=i→i+r.length=l.length→C=runT tr C0 →
  (∀ j o t,l[j]? = some o→tr[j]? = some t→Loc E N l.toArray o t.nx (rs t.rd (runT (tr.take j) C0).sl) (hpF (runT (tr.take j) C0).hp) t.e∧t.e.wf t.nx=true∧t.nx=(runT (tr.take j) C0).nx∧t.dst=o.dst) →
  q7n E N l i r tr K C→∃ tr',qxo E N l C0 tr'∧K tr' (runT tr' C0)
 | [],i,tr,C,hr,hl,hn,hC,hw,h=>⟨tr,⟨by simpa [hl] using hn,hw⟩,by rw [← hC];exact h⟩
 |o::r,i,tr,⟨sl,hp,nx⟩,hr,hl,hn,hC,hw,h=>by
  obtain⟨e,hL,h⟩:=h.ex;obtain⟨e,hL,h⟩:=qzq hL h;rw [qzc] at h;obtain⟨hwf,h⟩:=qql h
  ·refine q11 (r:=r) (i:=i+1) (tr:=tr++[⟨rdOf l o,o.dst,e,nx⟩]) (fun k=>?_) (by simp [hl]) (by simp at hn;omega) (by rw [q1h,← hC]) (fun j o' t ho ht=>?_) h
   ·have:=hr (k+1)
    rw [show i+1+k=i+(k+1) by omega,← this];rfl
   ·by_cases hj:j<tr.length
    ·rw [List.getElem?_append_left hj] at ht
     rw [List.take_append_of_le_length (by omega)];exact hw j o' t ho ht
    ·have s3:j=tr.length:=by
      have:=lt_of_getElem? ht;simp at this;omega
     subst s3;simp only [List.getElem?_concat_length,Option.some.injEq] at ht;subst ht;have bj:=hr 0;rw [← hl,Nat.add_zero,ho] at bj;simp only [List.getElem?_cons_zero,Option.some.injEq] at bj;subst bj;rw [List.take_left,← hC];exact⟨hL,hwf,rfl,rfl⟩
theorem zap {E:Env} {rd:Option Nat} {N:Nat} {B:Bs} {Q:Exit→Conf→Prop} {C:Conf} {id:Nat} {ops:Array Oper}
  (h:q7n E N ops.toList 0 ops.toList [] (fun tr C'=>DrOk E ops.toList tr∧Q .normal C') C):Sm E rd N B (.region id ops true) Q C:=⟨fun s hs=>by
 obtain⟨tr,hw,hb,hq⟩:=q11 (C0:=C) (l:=ops.toList) (i:=0) (tr:=[]) (fun k=>by rw [Nat.zero_add]) rfl (by simp) rfl (fun j o t _ ht=>by simp at ht) h;have hb:=hb.ok;simp only [drB,Bool.and_eq_true] at hb;have e:ops=ops.toList.toArray:=by simp
 rw [e]
 exact qu7 hb.1.1.1 hb.1.1.2 hb.1.2 hw hb.2 hs fun s' bz=>⟨_,hq,bz⟩⟩
theorem locK {E:Env} {N:Nat} {l:List Oper} {o:Oper} {nx:Nat} {sl:List (Nat×SV)} {H:Nat→Option SR} {k:Ef→Prop} (h:opG E N l [] nx sl H k o):LocK E N l o nx sl H k:=⟨q0k h⟩
theorem locX {E:Env} {N:Nat} {l:List Oper} {o:Oper} {nx:Nat} {sl:List (Nat×SV)} {H:Nat→Option SR} {k:Ef→Prop} (h:∃ e,Loc E N l.toArray o nx sl H e∧k e):LocK E N l o nx sl H k:=⟨h⟩
end Go.Av
namespace Go.Pl
open Go Go.Proofs Go.Proofs.YtapblfabkbdgcaaGreatDoor
section
variable {α : Type} [DecidableEq α]
def j6 (a b:List α) (i j:Nat):Int:=(vz a b i j:Int)
def rowF (a b:List α) (i n:Nat):List Int:=(List.range n).map (j6 a b i)
theorem qfy (a b:List α) (i n:Nat):(rowF a b i n).length=n:=by simp [rowF]
theorem zak (a b:List α) (i n:Nat):rowF a b i (n+1)=rowF a b i n++[j6 a b i n]:=by simp [rowF,List.range_succ]
theorem q1f (a b:List α) (i:Nat) {n j:Nat} (h:j<n):(rowF a b i n)[j]? = some (j6 a b i j):=by
 unfold rowF;rw [List.getElem?_map,List.getElem?_range h];rfl
def yt (a b:List α) (i n j:Nat):List Int:=rowF a b i j++List.replicate (n - j) 0
theorem q97 (a b:List α) (i:Nat) {n j:Nat} (h:j≤n):(yt a b i n j).length=n:=by
 unfold yt;rw [List.length_append,qfy,List.length_replicate];omega
theorem q6v (a b:List α) (i n:Nat):yt a b i n 0=List.replicate n 0:=by simp [yt,rowF]
theorem q6u (a b:List α) (i n:Nat):yt a b i n n=rowF a b i n:=by simp [yt]
theorem q96 (a b:List α) (i:Nat) {n j k:Nat} (h:k<j):(yt a b i n j)[k]? = some (j6 a b i k):=by
 unfold yt;rw [List.getElem?_append_left (by rw [qfy];exact h)];exact q1f a b i h
theorem q98 (a b:List α) (i:Nat) {n j:Nat} (h:j<n):(yt a b i n j).set j (j6 a b i j)=yt a b i n (j+1):=by
 unfold yt;have e:n - j=n - (j+1)+1:=by omega
 rw [List.set_append_right _ _ (by rw [qfy];exact Nat.le_refl _),qfy,Nat.sub_self,e,List.replicate_succ,List.set_cons_zero,zak,List.append_assoc];rfl
theorem zfb (a b:List α) (j:Nat):j6 a b 0 j=j:=by unfold j6;rw [qi2]
theorem qt5 (a b:List α) (i:Nat):j6 a b i 0=i:=by unfold j6;rw [qgh]
theorem q5z (a b:List α) {i j:Nat} (h:a[i]? = b[j]?):j6 a b (i+1) (j+1)=j6 a b i j:=by unfold j6;rw [qob,if_pos h]
theorem q2k (a b:List α) {i j:Nat} (h:¬ a[i]? = b[j]?):j6 a b (i+1) (j+1)=1+min (min (j6 a b i j) (j6 a b i (j+1))) (j6 a b (i+1) j):=by
 unfold j6;rw [qob,if_neg h];omega
def qgv (a b:List α) (n m:Nat):List (List Int):=(List.range n).map fun i=>rowF a b i m
theorem q3k (a b:List α) (n m:Nat):qgv a b (n+1) m=qgv a b n m++[rowF a b n m]:=by simp [qgv,List.range_succ]
theorem q7e (a b:List α) (m:Nat) {n i:Nat} (h:i<n):(qgv a b n m)[i]? = some (rowF a b i m):=by
 unfold qgv;rw [List.getElem?_map,List.getElem?_range h];rfl
theorem q7f (a b:List α) (n m:Nat):(qgv a b n m).length=n:=by simp [qgv]
def qjf (i j:Nat) (same:Bool) (diag up here:Int):Int:=
 if 0<i∧0<j∧same=true∧diag=here then 1 else if 0<i∧0<j∧diag=here - 1 then 2 else if 0<i∧up=here - 1 then 3 else 4
theorem zcu (a b:List α) (i j:Nat):qjf i j (decide (a[i - 1]? = b[j - 1]?)) (j6 a b (i - 1) (j - 1)) (j6 a b (i - 1) j) (j6 a b i j)=xe a b i j:=by
 have e1:∀ x y:Nat,((x:Int)=(y:Int) - 1)↔x+1=y:=fun x y=>by omega
 have e2:∀ x y:Nat,((x:Int)=(y:Int))↔x=y:=fun x y=>by omega
 unfold qjf xe j6;simp only [decide_eq_true_eq,e1,e2]
structure qg6 (a b:List α) (out:List Int) (n i j:Nat):Prop where
 le:i+j≤n
 hi:i≤a.length
 hj:j≤b.length
 eq:(wayF a b).reverse=out++wayB a b n i j
theorem zbc (a b:List α):qg6 a b [] (a.length+b.length) a.length b.length:=⟨Nat.le_refl _,Nat.le_refl _,Nat.le_refl _,by simp [wayF]⟩
theorem zec {a b:List α} {out:List Int} {n i j:Nat} (h:qg6 a b out n i j) (h0:¬ (i=0∧j=0)) :
  ∃ m,m+1=n∧qg6 a b (out++[xe a b i j]) m (if xe a b i j=4 then i else i - 1) (if xe a b i j=3 then j else j - 1):=by
 obtain⟨m,rfl⟩:∃ m,n=m+1:=⟨n - 1,by have:=h.le;omega⟩;have h1:=h.le;have h2:=h.hi;have h3:=h.hj;refine⟨m,rfl,?_,by split <;> omega,by split <;> omega,?_⟩
 ·have l:=qnh a b i j
  have r:=qlj a b i j h0;rcases qni a b i j with e|e|e|e <;> rw [e] at l r ⊢ <;> simp at l r ⊢ <;> omega
 ·rw [h.eq,wayB,if_neg h0]
  simp
theorem zhq {a b:List α} {out:List Int} {n:Nat} (h:qg6 a b out n 0 0):out.reverse=wayF a b:=by
 have:=h.eq;have e:wayB a b n 0 0=[]:=by cases n <;> simp [wayB]
 rw [e,List.append_nil] at this;rw [← this,List.reverse_reverse]
end
theorem zgq {w:Int} {ws:List Int} {S:List (Int×List Fld)} {R:List (List Fld)} (h:OkW (w::ws) S R) :
  (w=1∧∃ s S' R',S=s::S'∧R=s.2::R'∧OkW ws S' R')∨(w=2∧∃ s S' r R',S=s::S'∧R=r::R'∧OkW ws S' R')∨(w=3∧∃ s S',S=s::S'∧OkW ws S' R)∨(w=4∧∃ r R',R=r::R'∧OkW ws S R'):=by
 cases h with
 |keep h=>exact .inl ⟨rfl,_,_,_,rfl,rfl,h⟩
 |change h=>exact .inr (.inl ⟨rfl,_,_,_,_,rfl,rfl,h⟩)
 |drop h=>exact .inr (.inr (.inl ⟨rfl,_,_,rfl,h⟩))
 |add h=>exact .inr (.inr (.inr ⟨rfl,_,_,rfl,h⟩))
theorem zgr {S:List (Int×List Fld)} {R:List (List Fld)} (h:OkW [] S R):S=[]∧R=[]:=by
 cases h
 exact⟨rfl,rfl⟩
theorem zfp (ws:List Int) (s:Int×List Fld) (S:List (Int×List Fld)) (r:List Fld) (R:List (List Fld)) (bh nx:Int):zt (1::ws) (s::S) (r::R) bh nx=zt ws S R s.1 nx:=by simp [zt]
theorem q82 (ws:List Int) (s:Int×List Fld) (S:List (Int×List Fld)) (r:List Fld) (R:List (List Fld)) (bh nx:Int):zt (2::ws) (s::S) (r::R) bh nx=⟨1,s.1,r⟩::zt ws S R s.1 nx:=by simp [zt]
theorem zfo (ws:List Int) (s:Int×List Fld) (S:List (Int×List Fld)) (R:List (List Fld)) (bh nx:Int):zt (3::ws) (s::S) R bh nx=⟨2,s.1,[]⟩::zt ws S R bh nx:=by simp [zt]
theorem zh9 (ws:List Int) (S:List (Int×List Fld)) (r:List Fld) (R:List (List Fld)) (bh nx:Int):zt (4::ws) S (r::R) bh nx=⟨3,bh,r⟩::zt ws S R nx (nx+1):=by simp [zt]
structure EdAt (full out:List qp) (ws:List Int) (S:List (Int×List Fld)) (R:List (List Fld)) (bh nx:Int):Prop where
 ok:OkW ws S R
 eq:full=out++zt ws S R bh nx
theorem zcc {ws:List Int} {S:List (Int×List Fld)} {R:List (List Fld)} (h:OkW ws S R) (bh nx:Int):EdAt (zt ws S R bh nx) [] ws S R bh nx:=⟨h,rfl⟩
theorem zia {full out:List qp} {S:List (Int×List Fld)} {R:List (List Fld)} {bh nx:Int} (h:EdAt full out [] S R bh nx):full=out:=by
 rw [h.eq,zt,List.append_nil]
theorem zfq {full out:List qp} {w:Int} {ws:List Int} {S:List (Int×List Fld)} {R:List (List Fld)} {bh nx:Int} (h:EdAt full out (w::ws) S R bh nx) :
  (w=1∧∃ s S' R',S=s::S'∧R=s.2::R'∧EdAt full out ws S' R' s.1 nx)∨(w=2∧∃ s S' r R',S=s::S'∧R=r::R'∧EdAt full (out++[⟨1,s.1,r⟩]) ws S' R' s.1 nx) ∨
  (w=3∧∃ s S',S=s::S'∧EdAt full (out++[⟨2,s.1,[]⟩]) ws S' R bh nx)∨(w=4∧∃ r R',R=r::R'∧EdAt full (out++[⟨3,bh,r⟩]) ws S R' nx (nx+1)):=by
 obtain⟨ho,he⟩:=h;rcases zgq ho with⟨rfl,s,S',R',rfl,rfl,h⟩ | ⟨rfl,s,S',r,R',rfl,rfl,h⟩ | ⟨rfl,s,S',rfl,h⟩ | ⟨rfl,r,R',rfl,h⟩
 ·rw [zfp] at he
  exact .inl ⟨rfl,s,S',R',rfl,rfl,h,he⟩
 ·rw [q82] at he
  exact .inr (.inl ⟨rfl,s,S',r,R',rfl,rfl,h,by rw [he];simp⟩)
 ·rw [zfo] at he
  exact .inr (.inr (.inl ⟨rfl,s,S',rfl,h,by rw [he];simp⟩))
 ·rw [zh9] at he
  exact .inr (.inr (.inr ⟨rfl,r,R',rfl,h,by rw [he];simp⟩))
end Go.Pl
namespace Go.Pl
open Go Go.Proofs Go.Proofs.YtapblfabkbdgcaaGreatDoor
structure PatV where
 fr:BitVec 32
 to':BitVec 32
 b:List qp
def pat0:PatV:=⟨0,0,[]⟩
def xy (l:q9):List (List Fld):=(stzF l.ents).map Prod.snd
def qcr (text:qc) (l:q9) (R:List (List Fld)):ErrV×PatV:=
 if 40<(wo l R).length then (.num 1,pat0)
 else if (vp l (wo l R)).1 = .no then (.no,⟨addP 0 text,addP 0 (qap (vp l (wo l R)).2),wo l R⟩)
 else ((vp l (wo l R)).1,pat0)
def xl (old now:qc):ErrV×PatV:=
 if vb old = .no then (if vb now = .no then qcr old (ofF (itsE old)) (xy (ofF (itsE now))) else (vb now,pat0)) else (vb old,pat0)
def qh3 (text:qc) (p:PatV):ErrV×qc:=
 if vb text = .no then
  (if addP 0 text=p.fr then
   (if (vp (ofF (itsE text)) p.b).1 = .no then
    (if addP 0 (qap (vp (ofF (itsE text)) p.b).2)=p.to' then (.no,qap (vp (ofF (itsE text)) p.b).2) else (.num 10,[]))
   else ((vp (ofF (itsE text)) p.b).1,[]))
  else (.num 13,[]))
 else (vb text,[])
theorem q0j {text:qc} (h:vb text = .no):GL (ofF (itsE text)):=by
 obtain⟨h1,_,h3⟩:=qj9 h;refine ziz ?_ ?_
 ·rw [h3];exact qnu h1
 ·rw [h3];exact q92 h1
theorem zb5 {l:q9} (h:GL l) (b:List qp):GL (vp l b).2:=by
 unfold vp;split
 ·exact h
 ·exact zh4 h b
theorem qtb {l:q9} (h:GL l):∀ r∈xy l,zv r = .no:=za3 h
theorem zgi {old now:qc} (h:(xl old now).1 = .no):vb old = .no∧vb now = .no∧(xl old now).2=⟨addP 0 old,addP 0 (qap (vp (ofF (itsE old)) (xl old now).2.b).2),(xl old now).2.b⟩∧(vp (ofF (itsE old)) (xl old now).2.b).1 = .no∧xy (vp (ofF (itsE old)) (xl old now).2.b).2=xy (ofF (itsE now)):=by
 unfold xl at h ⊢;by_cases h1:vb old = .no
 ·rw [if_pos h1] at h ⊢
  by_cases h2:vb now = .no
  ·rw [if_pos h2] at h ⊢
   unfold qcr at h ⊢;by_cases h3:40<(wo (ofF (itsE old)) (xy (ofF (itsE now)))).length
   ·rw [if_pos h3] at h
    simp at h
   ·rw [if_neg h3] at h ⊢
    have hd:=q8w (l:=ofF (itsE old)) (R:=xy (ofF (itsE now))) (q9q _) (qtb (q0j h2)) (by omega);by_cases h4:(vp (ofF (itsE old)) (wo (ofF (itsE old)) (xy (ofF (itsE now))))).1 = .no
    ·rw [if_pos h4]
     rcases hd with⟨j,hd⟩ | ⟨_,hd⟩
     ·rw [h4] at hd
      simp at hd
     ·exact⟨h1,h2,rfl,h4,hd⟩
    ·rw [if_neg h4] at h
     exact absurd h h4
  ·rw [if_neg h2] at h
   exact absurd h h2
 ·rw [if_neg h1] at h
  exact absurd h h1
theorem qwb {old now:qc} (h:(xl old now).1 = .no):(qh3 old (xl old now).2).1 = .no∧(qh3 old (xl old now).2).2=qap (vp (ofF (itsE old)) (xl old now).2.b).2:=by
 obtain⟨h1,h2,h3,h4,_⟩:=zgi h;have hf:=congrArg PatV.fr h3;have ht:=congrArg PatV.to' h3;dsimp only at hf ht;unfold qh3;rw [if_pos h1,if_pos hf.symm,if_pos h4,if_pos ht.symm];exact⟨rfl,rfl⟩
def hexB:qc:=[48,49,50,51,52,53,54,55,56,57,97,98,99,100,101,102]
def hexN (c:UInt8):Option Nat:=if 48≤c.toNat∧c.toNat≤57 then some (c.toNat - 48) else if 97≤c.toNat∧c.toNat≤102 then some (c.toNat - 87) else none
theorem qqc {n:Nat} (h:n<16):hexN (hexB.getD n 0)=some n:=by
 have key:∀ i:Fin 16,hexN (hexB.getD i.val 0)=some i.val:=by decide +kernel
 exact key ⟨n,h⟩
theorem xu {c:UInt8} {n:Nat} (h:hexN c=some n):n<16∧hexB.getD n 0=c:=by
 have key:∀ i:Fin 256,∀ m:Fin 256,hexN (UInt8.ofNat i.val)=some m.val→m.val<16∧hexB.getD m.val 0=UInt8.ofNat i.val:=by decide +kernel
 have hn:n<256:=by
  have:=c.toNat_lt;unfold hexN at h;repeat' split at h
  all_goals simp at h
  all_goals omega
 have:=key ⟨c.toNat,c.toNat_lt⟩ ⟨n,hn⟩;simp only [UInt8.ofNat_toNat] at this;exact this h
def qd5:qc→Nat→Option Nat
 | [],a=>some a
 |c::r,a=>match hexN c with
  |none=>none
  |some n=>qd5 r (16 * a+n)
def yc (s:qc):Option (BitVec 32):=if s.length=8 then (qd5 s 0).map (BitVec.ofNat 32) else none
theorem qp6 (x:BitVec 32) (j:Nat):figP x j=hexB.getD (x.toNat / 2 ^ (4 * (7 - j)) % 16) 0:=by
 unfold figP
 have e:((x >>> (4 * (7 - j))) &&& BitVec.ofInt 32 15).toNat=x.toNat / 2 ^ (4 * (7 - j)) % 16:=by
  rw [BitVec.toNat_and,BitVec.toNat_ushiftRight,Nat.shiftRight_eq_div_pow];exact Nat.and_two_pow_sub_one_eq_mod _ 4
 rw [e];rfl
theorem qvv (x:BitVec 32):vc x 8=[figP x 0,figP x 1,figP x 2,figP x 3,figP x 4,figP x 5,figP x 6,figP x 7]:=rfl
theorem qh8 (x:BitVec 32):(vc x 8).length=8:=by simp [vc]
theorem qjq (x:BitVec 32):yc (vc x 8)=some x:=by
 have hx:=x.isLt
 have hs:∀ j,hexN (figP x j)=some (x.toNat / 2 ^ (4 * (7 - j)) % 16):=fun j=>by
  rw [qp6];exact qqc (Nat.mod_lt _ (by omega))
 unfold yc;rw [if_pos (qh8 x),qvv];simp only [qd5,hs];refine congrArg some ?_;apply BitVec.eq_of_toNat_eq;rw [BitVec.toNat_ofNat];simp only [Nat.reduceSub,Nat.reduceMul,Nat.reducePow];omega
theorem qwz {s:qc} {x:BitVec 32} (h:yc s=some x):s=vc x 8:=by
 unfold yc at h;split at h
 ·rename_i hl
  match s,hl with
  | [c0,c1,c2,c3,c4,c5,c6,c7],_=>
   simp only [qd5] at h
   cases h0:hexN c0 with
   |none=>simp [h0] at h
   |some n0=>
   cases h1:hexN c1 with
   |none=>simp [h0,h1] at h
   |some n1=>
   cases h2:hexN c2 with
   |none=>simp [h0,h1,h2] at h
   |some n2=>
   cases h3:hexN c3 with
   |none=>simp [h0,h1,h2,h3] at h
   |some n3=>
   cases h4:hexN c4 with
   |none=>simp [h0,h1,h2,h3,h4] at h
   |some n4=>
   cases h5:hexN c5 with
   |none=>simp [h0,h1,h2,h3,h4,h5] at h
   |some n5=>
   cases h6:hexN c6 with
   |none=>simp [h0,h1,h2,h3,h4,h5,h6] at h
   |some n6=>
   cases h7:hexN c7 with
   |none=>simp [h0,h1,h2,h3,h4,h5,h6,h7] at h
   |some n7=>
   simp only [h0,h1,h2,h3,h4,h5,h6,h7,Option.map_some,Option.some.injEq] at h;obtain⟨b0,rfl⟩:=xu h0;obtain⟨b1,rfl⟩:=xu h1;obtain⟨b2,rfl⟩:=xu h2;obtain⟨b3,rfl⟩:=xu h3;obtain⟨b4,rfl⟩:=xu h4;obtain⟨b5,rfl⟩:=xu h5;obtain⟨b6,rfl⟩:=xu h6;obtain⟨b7,rfl⟩:=xu h7
   have hv:x.toNat=16 * (16 * (16 * (16 * (16 * (16 * (16 * (16 * 0+n0)+n1)+n2)+n3)+n4)+n5)+n6)+n7:=by
    rw [← h,BitVec.toNat_ofNat];exact Nat.mod_eq_of_lt (by omega)
   rw [qvv];simp only [qp6,Nat.reduceSub,Nat.reduceMul,Nat.reducePow]
   rw [show x.toNat / 268435456 % 16=n0 by omega,show x.toNat / 16777216 % 16=n1 by omega,show x.toNat / 1048576 % 16=n2 by omega,show x.toNat / 65536 % 16=n3 by omega,
    show x.toNat / 4096 % 16=n4 by omega,show x.toNat / 256 % 16=n5 by omega,show x.toNat / 16 % 16=n6 by omega,show x.toNat / 1 % 16=n7 by omega]
 ·simp at h
def wz:qc:=[37,112,97,116,99,104,32]
def qf8 (p:PatV):qc:=wz++(vc p.fr 8++(32::(vc p.to' 8++[10])))
def qdx (p:PatV):ErrV×qc:=if p.b=[] then (.no,qf8 p) else if eErr p.b = .no then (.no,qf8 p++encF p.b) else (eErr p.b,[])
def qah (body:qc):Option (List qp):=if body=[] then some [] else decF body
def qjl (text:qc):Option PatV:=
 match qah (past 10 text) with
 |none=>none
 |some b=>
  let t:=Lib.trimPrefix (upto 10 text) wz
  let p:PatV:=⟨(yc (upto 32 t)).getD 0,(yc (past 32 t)).getD 0,b⟩
  if qdx p=(.no,text) then some p else none
def qc2 (text:qc):Option PatV:=
 if text.length<25∨text.take 7≠wz∨text[15]?≠some 32∨text[24]?≠some 10 then none
 else match yc ((text.take 15).drop 7),yc ((text.take 24).drop 16) with
  |some a,some b=>(qah (text.drop 25)).map fun e=>⟨a,b,e⟩
  | _,_=>none
theorem zfe {t:qc} {b:List qp} (h:decF t=some b):b≠[]:=fun e=>by
 obtain⟨h1,_⟩:=qd9 h;subst e;unfold eErr at h1;simp at h1
theorem qoc (x:BitVec 32) {c:UInt8} (h:hexN c=none):c∉vc x 8:=fun hm=>by
 unfold vc at hm;obtain⟨j,_,rfl⟩:=List.mem_map.1 hm;rw [qp6,qqc (Nat.mod_lt _ (by omega))] at h;simp at h
theorem q0y (text:qc) (p:PatV):qjl text=some p↔∃ body,text=qf8 p++body∧qah body=some p.b:=by
 constructor
 ·intro h
  unfold qjl at h;split at h
  ·simp at h
  ·rename_i b hb
   simp only at h;split at h
   ·rename_i hp
    simp only [Option.some.injEq] at h;rw [h] at hp;have hpb:p.b=b:=by rw [← h]
    unfold qdx at hp;split at hp
    ·rename_i h0
     simp only [Prod.mk.injEq,true_and] at hp;exact⟨[],by rw [hp];simp,by rw [h0];rfl⟩
    ·rename_i h0
     split at hp
     ·simp only [Prod.mk.injEq,true_and] at hp
      refine⟨encF p.b,hp.symm,?_⟩;unfold qah at hb;split at hb
      ·simp only [Option.some.injEq] at hb
       exact absurd (hpb.trans hb.symm) h0
      ·rename_i h1
       have h2:=(qd9 hb).2.1;rw [hpb,h2];unfold qah;rw [if_neg h1];exact hb
     ·rename_i h1
      simp only [Prod.mk.injEq] at hp;exact absurd hp.1 h1
   ·simp at h
 ·rintro⟨body,rfl,hb⟩
  have e1:qf8 p++body=(wz++(vc p.fr 8++32::vc p.to' 8))++10::body:=by unfold qf8;simp
  have n1:(10:UInt8)∉wz++(vc p.fr 8++32::vc p.to' 8):=by
   simp only [List.mem_append,List.mem_cons,not_or];exact⟨by decide,qoc _ rfl,by decide,qoc _ rfl⟩
  have e2:Lib.trimPrefix (wz++(vc p.fr 8++32::vc p.to' 8)) wz=vc p.fr 8++32::vc p.to' 8:=by
   rw [qd6 (List.prefix_append _ _)];exact List.drop_left
  unfold qjl;rw [e1,xb _ n1,wj _ n1,hb];simp only;rw [e2,wj _ (qoc _ rfl),xb _ (qoc _ rfl),qjq,qjq];simp only [Option.getD_some];refine if_pos ?_
  show qdx p=_
  rw [← e1];unfold qdx;unfold qah at hb;split at hb
  ·rename_i h0
   simp only [Option.some.injEq] at hb;rw [if_pos hb.symm,h0];simp
  ·rw [if_neg (zfe hb),if_pos (qd9 hb).1,(qd9 hb).2.1]
theorem qwj (text:qc) (p:PatV):qc2 text=some p↔∃ body,text=qf8 p++body∧qah body=some p.b:=by
 constructor
 ·intro h
  unfold qc2 at h;split at h
  ·simp at h
  ·rename_i hc
   simp only [not_or,Decidable.not_not] at hc;obtain⟨h1,h2,h3,h4⟩:=hc;split at h
   ·rename_i a b ha hb
    cases pn:qah (text.drop 25) with
    |none=>rw [pn] at h;simp at h
    |some e=>
    rw [pn] at h;simp only [Option.map_some,Option.some.injEq] at h;subst h;refine⟨text.drop 25,?_,pn⟩;have e1:=qwz ha;have e2:=qwz hb;unfold qf8;simp only;rw [← e1,← e2,← h2];have q1:=List.take_append_drop 7 (text.take 15);have q2:=List.take_append_drop 16 (text.take 24);have q3:text.take 16=text.take 15++[32]:=by rw [List.take_add_one,h3];rfl
    have q4:text.take 25=text.take 24++[10]:=by rw [List.take_add_one,h4];rfl
    have q5:=List.take_append_drop 25 text;rw [List.take_take,show min 7 15=7 from rfl] at q1;rw [List.take_take,show min 16 24=16 from rfl,q3,← q1] at q2;rw [q4,← q2] at q5
    conv=>lhs;rw [← q5]
    simp
   ·simp at h
 ·rintro⟨body,rfl,hb⟩
  have e1:qf8 p++body=wz++(vc p.fr 8++(32::(vc p.to' 8++(10::body)))):=by unfold qf8;simp
  have l1:=qh8 p.fr;have l2:=qh8 p.to';generalize hf:vc p.fr 8=f at *;generalize ht:vc p.to' 8=t at *;unfold qc2;rw [e1]
  match f,l1,t,l2 with
  | [a0,a1,a2,a3,a4,a5,a6,a7],_,[b0,b1,b2,b3,b4,b5,b6,b7],_=>
   rw [if_neg (by simp [wz])];simp only [wz,List.cons_append,List.nil_append,List.take_succ_cons,List.take_zero,List.drop_succ_cons,List.drop_zero];rw [← hf,← ht,qjq,qjq,hb];rfl
theorem qs1 (text:qc):qjl text=qc2 text:=by
 cases h:qc2 text with
 |some p=>exact (q0y text p).2 ((qwj text p).1 h)
 |none=>
  cases h2:qjl text with
  |none=>rfl
  |some p=>
   rw [(qwj text p).2 ((q0y text p).1 h2)] at h;simp at h
theorem q26 {text:qc} {p:PatV} (h:qc2 text=some p):qdx p=(.no,text):=by
 rw [← qs1] at h;unfold qjl at h;split at h
 ·simp at h
 ·simp only at h
  split at h
  ·rename_i hp
   simp only [Option.some.injEq] at h;rw [h] at hp;exact hp
  ·simp at h
end Go.Pl
namespace Go.Pl
open Go Go.Proofs Go.Av Go.Proofs.YtapblfabkbdgcaaGreatDoor
theorem zfx (c:UInt8):Lib.indexByte hexB c=match hexN c with
  |some n=>(n:Int)
  |none=> -1:=by
 have key:∀ i:Fin 256,Lib.indexByte hexB (UInt8.ofNat i.val)=match hexN (UInt8.ofNat i.val) with
  |some n=>(n:Int)
  |none=> -1:=by decide +kernel
 have h:=key ⟨c.toNat,c.toNat_lt⟩
 simpa using h
theorem shl_or {a n:Nat} (hn:n<16):a * 16 |||n=16 * a+n:=by
 have h:=Nat.shiftLeft_add_eq_or_of_lt (i:=4) (b:=n) (by omega) a;rw [Nat.shiftLeft_eq] at h;rw [show a * 16=a * 2 ^ 4 by omega,← h];omega
theorem q7p (x y:BitVec 32):(x.toNat:Int)=y.toNat↔x=y:=by
 constructor
 ·intro h
  exact BitVec.eq_of_toNat_eq (by omega)
 ·rintro rfl
  rfl
theorem qfa (C:Int):∀ (ws:List Int) (S:List (Int×List Fld)) (R:List (List Fld)) (bh nx:Int),(∀ s∈S,0≤s.1∧s.1≤C)→0≤bh→bh≤C→0≤nx→nx+ws.length≤C→∀ x∈zt ws S R bh nx,0≤x.id∧x.id≤C
 | [],_,_,_,_,_,_,_,_,_,x,hx=>by simp [zt] at hx
 |w::ws,S,R,bh,nx,hS,b0,b1,n0,n1,x,hx=>by
  have hT:∀ s∈S.tail,0≤s.1∧s.1≤C:=fun s hs=>hS s (List.mem_of_mem_tail hs)
  have hh:0≤(S.headD (0,[])).1∧(S.headD (0,[])).1≤C:=by
   cases S with
   |nil=>simp;omega
   |cons s r=>exact hS s (by simp)
  simp only [List.length_cons] at n1;rw [zt] at hx;split at hx
  ·rcases List.mem_cons.1 hx with rfl|hx
   ·exact⟨b0,b1⟩
   ·exact qfa C ws S R.tail nx (nx+1) hS n0 (by omega) (by omega) (by omega) x hx
  ·split at hx
   ·rcases List.mem_cons.1 hx with rfl|hx
    ·exact hh
    ·exact qfa C ws S.tail R bh nx hT b0 b1 n0 (by omega) x hx
   ·split at hx
    ·rcases List.mem_cons.1 hx with rfl|hx
     ·exact hh
     ·exact qfa C ws S.tail R.tail _ nx hT hh.1 hh.2 n0 (by omega) x hx
    ·exact qfa C ws S.tail R.tail _ nx hT hh.1 hh.2 n0 (by omega) x hx
theorem q10 {α : Type} [DecidableEq α] (a b:List α):∀ n i j:Nat,(wayB a b n i j).length≤n
 | 0,_,_=>by simp [wayB]
 |n+1,i,j=>by
  rw [wayB];split
  ·simp
  ·have:=q10 a b n (if xe a b i j=4 then i else i - 1) (if xe a b i j=3 then j else j - 1)
   simp only [List.length_cons];omega
theorem qq3 {α : Type} [DecidableEq α] (a b:List α):(wayF a b).length≤a.length+b.length:=by
 unfold wayF;rw [List.length_reverse];exact q10 a b _ _ _
structure qax (b:List qp):Prop where
 ed:∀ x∈b,EdB x
 len:b.length≤60
 fl:∀ x∈b,x.fields.length<1000000
theorem q1g {text:qc} (h:vb text = .no):∀ r∈xy (ofF (itsE text)),zv r = .no:=qtb (q0j h)
theorem zhe (text:qc):∀ s∈stzF (ofF (itsE text)).ents,0≤s.1∧s.1≤(ofF (itsE text)).next:=fun s hs=>by
 obtain⟨e,he,rfl⟩:=List.mem_map.1 hs;obtain⟨h1,h2⟩:=List.mem_filter.1 he;have:=of_decide_eq_true h2;have:=(q9q (itsE text)).lt e h1;simp only;omega
theorem q80 {text:qc} {R:List (List Fld)} (hR:∀ r∈R,zv r = .no) (hl:R.length<1000000) (lg:(wo (ofF (itsE text)) R).length≤40):qax (wo (ofF (itsE text)) R):=by
 have hB:=qff text;have fj:=hB.nx0;have hn1:=hB.nx1;have hg:=qpr (quz (stzF (ofF (itsE text)).ents) R) 0 (ofF (itsE text)).next hR;have hw:=qq3 ((stzF (ofF (itsE text)).ents).map Prod.snd) R;have dv:=qin (ofF (itsE text)).ents;have ct:=hB.len;rw [List.length_map] at hw;have hi:=qfa 10000000 (wayF ((stzF (ofF (itsE text)).ents).map Prod.snd) R) (stzF (ofF (itsE text)).ents) R 0 (ofF (itsE text)).next (fun s hs=>by have:=zhe text s hs;omega) (by omega) (by omega) (by omega) (by omega);refine⟨fun x hx=>?_,by omega,fun x hx=>by have:=(qeq (hg x hx)).1;omega⟩;obtain⟨h1,h2⟩:=qeq (hg x hx);obtain⟨h3,h4⟩:=hi x hx;exact⟨fun f hf=>((qzs h1 h2).val f hf).1,by omega,by omega,by omega⟩
end Go.Pl
namespace Go.Proofs.YtapblfabkbdgcaaGreatDoor
open Go Go.Av Go.RowKit Go.Proofs Go.Pl
def qhu (b:List qp):AV:=if 40<b.length then .tu [ku [],errA (.num 1)] else .tu [ku b,errA .no]
theorem qy6 (b:List qp):Pure (qhu b):=by
 unfold qhu;split
 ·exact j9 (qbh _) (vd _)
 ·exact j9 (qbh _) (vd _)
theorem q86:EqT Tryz.prog 98:=⟨by kernel_rfl,by kernel_rfl,by kernel_rfl⟩
theorem zhj {α : Type} {a b:List α} {k:Nat} {x y : α} (hx:a[k]? = some x) (hy:b[k]? = some y) (h:x≠y):a≠b:=fun e=>by
 subst e;rw [hx] at hy;exact h (by simpa using hy)
theorem qn0 {α : Type} {a:List α} {k:Nat} {x : α} (hx:a[k]? = some x):a.take (k+1)=a.take k++[x]:=by rw [List.take_add_one,hx];rfl
theorem zce (a b:List Fld) (st:List AObj) (ha:a.length<1000000):qo E 235 [zp a,zp b] st fun r st'=>r=Bv (decide (a=b))∧st'=st:=by
 refine zw [.a (zp a),.a (zp b)] (q8 _) Tryz.func235 rfl rfl (fun _=>rfl) rfl fun S0=>?_;have hma:(a.map fldA).length=a.length:=by simp
 have hmb:(b.map fldA).length=b.length:=by simp
 by_cases hl:a.length=b.length
 ·apply qf []
  repeat' (first|apply And.intro|(intro h;try exact cDd)|exact cSd|apply qd []|refine exr ?_|refine qk ?_)
  refine j5 (X:=Nat) (fun k=>⟨[(0,.a (zp a)),(1,.a (zp b)),(12,.i a.length),(13,.i k)],[],0⟩) (fun k=>k≤a.length∧a.take k=b.take k) (fun k=>a.length - k) 0 ⟨by omega,by simp⟩ ?_ ?_
  ·skip
   repeat' (first|apply And.intro|(intro h;try exact cDd)|exact cSd|apply qd []|refine exr ?_|refine qk ?_)
   all_goals first|rfl|(simp;done)
  ·rintro k ⟨hk,ht⟩
   by_cases i7:k<a.length
   ·have hx:a[k]? = some a[k]:=List.getElem?_eq_getElem i7
    have hy:b[k]? = some (b[k]'(by omega)):=List.getElem?_eq_getElem (by omega);have m3:(a.map fldA)[k]? = some (fldA a[k]):=by rw [List.getElem?_map,hx];rfl
    have hym:(b.map fldA)[k]? = some (fldA (b[k]'(by omega))):=by rw [List.getElem?_map,hy];rfl
    have h1:=qn0 hx;have h2:=qn0 hy;generalize a[k]=x at hx m3 h1;generalize b[k]'(by omega)=y at hy hym h2;by_cases hxy:x=y
    ·subst hxy
     have hq:x.1=x.1∧x.2=x.2∧True:=⟨rfl,rfl,trivial⟩;apply qf [];repeat' (first|apply And.intro|(intro h;try exact cDd)|(refine Exists.intro (k) ⟨by omega,_,m3,?_⟩)|(refine Exists.intro (k) ⟨by omega,_,hym,?_⟩)|(refine zeo q86 rfl rfl rfl rfl rfl ?_)|exact absurd hq (by assumption)|(refine Exists.intro (k+1) ⟨⟨by omega,by rw [h1,h2,ht]⟩,by omega,?_⟩)|exact cSd|apply qd []|refine exr ?_|refine qk ?_)
     all_goals first|rfl|(simp;done)
    ·have b8:=zhj hx hy hxy
     rw [decide_eq_false b8];have hq:¬ (x.1=y.1∧x.2=y.2∧True):=fun h=>hxy (Prod.ext h.1 h.2.1);apply qf [];repeat' (first|apply And.intro|(intro h;try exact cDd)|(refine Exists.intro (k) ⟨by omega,_,m3,?_⟩)|(refine Exists.intro (k) ⟨by omega,_,hym,?_⟩)|(refine zeo q86 rfl rfl rfl rfl rfl ?_)|exact absurd (by assumption) hq|exact absurd hq (by assumption)|exact cSd|apply qd []|refine exr ?_|refine qk ?_)
     all_goals first|rfl|(simp;done)
   ·have i7:k=a.length:=by omega
    subst i7;rw [List.take_length,hl,List.take_length] at ht;rw [decide_eq_true ht];apply qf [];repeat' (first|apply And.intro|(intro h;try exact cDd)|exact cSd|apply qd []|refine exr ?_|refine qk ?_)
 ·rw [decide_eq_false fun e=>hl (congrArg List.length e)]
  apply qf [];repeat' (first|apply And.intro|(intro h;try exact cDd)|exact cSd|apply qd []|refine exr ?_|refine qk ?_)
theorem q35 (a b:List Fld) (st:List AObj) (ha:a.length<1000000):qo E 216 [zp a,zp b] st fun r st'=>r=Bv (decide (a=b))∧st'=st:=by
 refine zw [.a (zp a),.a (zp b)] (q8 _) Tryz.func216 rfl rfl (fun _=>rfl) rfl fun S0=>?_;have h:=fun st=>zce a b st ha;apply qf [];repeat' (first|apply And.intro|(intro h;try exact cDd)|exact⟨Tryz.call235⟩|refine cpe h ?_|exact cSd|apply qd []|refine exr ?_|refine qk ?_)
@[reducible] def qa2 (a b : List (List Fld)) (i : Nat) : List AV := (qgv a b i (b.length + 1)).map qf9
@[reducible] def tblH (a b : List (List Fld)) (i j : Nat) : List (Nat × Option SR) := [(0, some (.cells 257 [.a (xm a), .a (xm b), .tp 1])), (1, some (.rows 111 (qa2 a b i) [.tp 2])), (2, some (.own 1 3 ((yt a b i (b.length + 1) j).map fun n => Iv n)))]
theorem qgi (a b:List (List Fld)) (i:Nat):(qa2 a b i).length=i:=by simp [qa2,q7f]
theorem qm2 (a b:List (List Fld)) {i k:Nat} (h:k<i):(qa2 a b i)[k]? = some (qf9 (rowF a b k (b.length+1))):=by
 unfold qa2;rw [List.getElem?_map,q7e a b (b.length+1) h];rfl
theorem q8p (a b:List (List Fld)) {i k:Nat} (h:k<i) (cs:List SV):((qa2 a b i).map SV.a++cs)[k]? = some (.a (qf9 (rowF a b k (b.length+1)))):=by
 rw [List.getElem?_append_left (by rw [List.length_map,qgi];exact h),List.getElem?_map,qm2 a b h];rfl
theorem qve (a b:List (List Fld)) (i:Nat) (v:SV):((qa2 a b i).map SV.a++[v])[i]? = some v:=by
 rw [List.getElem?_append_right (by rw [List.length_map,qgi];omega),List.length_map,qgi,Nat.sub_self];rfl
theorem qil (a b:List (List Fld)) (i:Nat) {n j:Nat} (h:j<n):((rowF a b i n).map fun n=>Iv n)[j]? = some (Iv (j6 a b i j)):=by
 rw [List.getElem?_map,q1f a b i h];rfl
theorem q95 (a b:List (List Fld)) (i:Nat) {n j k:Nat} (h:k<j):((yt a b i n j).map fun n=>Iv n)[k]? = some (Iv (j6 a b i k)):=by
 rw [List.getElem?_map,q96 a b i h];rfl
theorem qwk (a b:List (List Fld)) (i:Nat) {n j:Nat} (h:j≤n):((yt a b i n j).map fun n=>Iv n).length=n:=by rw [List.length_map,q97 a b i h]
theorem qlz {R:List (List Fld)} {k:Nat} (h:k<R.length):(R.map zp)[k]? = some (zp R[k]):=by rw [List.getElem?_map,List.getElem?_eq_getElem h];rfl
theorem qen (a b:List (List Fld)) (i j:Nat):0≤j6 a b i j∧j6 a b i j≤(i:Int)+j:=by
 have:=q32 a b i j;unfold j6;omega
theorem zga (a b:List (List Fld)) (i j:Nat) (hi:i≤a.length) (hj:j≤b.length) (ha:a.length<1000000) (hb:b.length<1000000) (hf:∀ r∈a,r.length<1000000):ko E 183 [.bx 0 0,.i i,.i j] 3 (hpF (tblH a b i j)) ⟨.i (j6 a b i j),j7 (tblH a b i j),tblH a b i j++vh (tblH a b i j),3⟩:=by
 refine wq [.bx 0 0,.i i,.i j] (tblH a b i j) 3 (.i (j6 a b i j)) (tblH a b i j) 3 Tryz.func183 rfl rfl rfl rfl fun S F ρ=>?_
 cases i with
 |zero=>
  rw [zfb];apply qf [];repeat' (first|apply And.intro|(intro h;try exact cDd)|exact cSd|apply qd []|refine exr ?_|refine qk ?_)
  all_goals first|rfl|assumption|(simp;done)
 |succ i=>
  cases j with
  |zero=>
   rw [qt5];apply qf [];repeat' (first|apply And.intro|(intro h;try exact cDd)|exact cSd|apply qd []|refine exr ?_|refine qk ?_)
   all_goals first|rfl|assumption|(simp;done)
  |succ j=>
   have hx:=qlz (R:=a) (k:=i) (by omega);have hy:=qlz (R:=b) (k:=j) (by omega);have hs:=fun st=>q35 (a[i]'(by omega)) (b[j]'(by omega)) st (hf _ (List.getElem_mem _));have dj:=q8p a b (show i<i+1 by omega) [.tp 2];have tn:=qve a b (i+1) (.tp 2);have hl:=qgi a b (i+1);have g1:=qil a b i (n:=b.length+1) (j:=j) (by omega);have g2:=qil a b i (n:=b.length+1) (j:=j+1) (by omega);have g3:=q95 a b (i+1) (n:=b.length+1) (j:=j+1) (k:=j) (by omega);have gl:=qwk a b (i+1) (n:=b.length+1) (j:=j+1) (by omega);have p1:=qen a b i j;have p2:=qen a b i (j+1);have p3:=qen a b (i+1) j;have t8:=@q5z _ _ a b i j;have g9:=@q2k _ _ a b i j;have ei:a[i]? = some (a[i]'(by omega)):=List.getElem?_eq_getElem (by omega);have ej:b[j]? = some (b[j]'(by omega)):=List.getElem?_eq_getElem (by omega);rw [ei,ej,Option.some.injEq] at t8 g9;generalize a[i]'(by omega)=x at *;generalize b[j]'(by omega)=y at *;by_cases hxy:x=y
   ·rw [decide_eq_true hxy] at hs
    rw [t8 hxy];apply qf [];repeat' (first|apply And.intro|(intro h;try exact cDd)|(refine Exists.intro (i) ⟨by omega,_,hx,?_⟩)|(refine Exists.intro (j) ⟨by omega,_,hy,?_⟩)|(refine Exists.intro (j) ⟨by omega,_,g1,?_⟩)|exact⟨Tryz.call216⟩|refine cpe hs ?_|(refine qjn (i:=i) rfl rfl rfl (ix64 (by omega)) rfl rfl (by omega) ?_)|(refine qjo (i:=i) rfl rfl rfl rfl dj rfl ?_)|exact cSd|apply qd []|refine exr ?_|refine qk ?_)
    all_goals first|rfl|assumption|(simp;done)
   ·rw [decide_eq_false hxy] at hs
    rw [g9 hxy];apply qf [];repeat' (first|apply And.intro|(intro h;try exact cDd)|(refine Exists.intro (i) ⟨by omega,_,hx,?_⟩)|(refine Exists.intro (j) ⟨by omega,_,hy,?_⟩)|(refine Exists.intro (j) ⟨by omega,_,g1,?_⟩)|(refine Exists.intro ((j+1)) ⟨by omega,_,g2,?_⟩)|exact⟨Tryz.call216⟩|refine cpe hs ?_|(refine qjn (i:=i) rfl rfl rfl (ix64 (by omega)) rfl rfl (by omega) ?_)|(refine qjo (i:=i) rfl rfl rfl rfl dj rfl ?_)|(refine qjn (i:=i+1) rfl rfl rfl (ix64 (by omega)) rfl rfl (by simp only [List.length_cons,List.length_nil];omega) ?_)|(refine qjo (i:=i+1) rfl rfl rfl rfl tn rfl ?_)|(refine qbm (i:=j) rfl rfl rfl (ix64 (by omega)) rfl rfl (by omega) ?_)|(refine qc0 (i:=j) (j:=0) rfl rfl rfl rfl g3 rfl rfl ?_)|(refine zgj rfl rfl rfl rfl rfl rfl ?_)|exact cSd|apply qd []|refine exr ?_|refine qk ?_)
    all_goals first|rfl|assumption|(simp;done)|omega
theorem q50 (a b:List (List Fld)) (i:Nat):qa2 a b (i+1)=qa2 a b i++[qf9 (rowF a b i (b.length+1))]:=by
 unfold qa2;rw [q3k,List.map_append];rfl
@[reducible] def tblA (a b : List (List Fld)) : AV := .pp [xm a, xm b, .sl 1 (qa2 a b (a.length + 1)) none]
theorem zd8 (a b:List (List Fld)):Pure (tblA a b):=quj fun x hx=>by
 simp only [List.mem_cons,List.not_mem_nil,or_false] at hx;rcases hx with rfl|rfl|rfl
 ·exact qhn _
 ·exact qhn _
 ·refine qch fun x hx=>?_
  obtain⟨f,_,rfl⟩:=List.mem_map.1 hx;intro y hy;simp only [AV.cells,List.mem_singleton] at hy;subst hy;exact qfd _
set_option maxHeartbeats 2000000 in
theorem zd6 (a b:List (List Fld)) (st:List AObj) (ha:a.length<1000000) (hb:b.length<1000000) (hf:∀ r∈a,r.length<1000000):qo E 160 [xm a,xm b] st fun r st'=>r=tblA a b∧st'=st:=by
 refine qlu [.a (xm a),.a (xm b)] (zd8 a b) Tryz.func160 rfl rfl (fun _=>rfl) rfl fun S0=>?_;have hma:(a.map zp).length=a.length:=by simp
 have hmb:(b.map zp).length=b.length:=by simp
 apply qf [11];repeat' (first|apply And.intro|(intro h;try exact cDd)|exact cSd|apply qd [11]|refine exr ?_|refine qk ?_)
 refine j5 (X:=Nat) (fun i=>⟨[(1,.a (xm b)),(5,.bx 0 0),(14,.i (a.length+1)),(15,.i i)],[(0,some (.cells 257 [.a (xm a),.a (xm b),.tp 1])),(1,some (.rows 111 (qa2 a b i) []))],2⟩) (fun i=>i≤a.length+1) (fun i=>a.length+1 - i) 0 (by omega) ?_ ?_
 ·skip
  repeat' (first|apply And.intro|(intro h;try exact cDd)|exact cSd|apply qd []|refine exr ?_|refine qk ?_)
  all_goals first|rfl|(simp [SV.evs,SV.rens,SV.ren,SV.ev];done)
 ·rintro i hi
  have cg:=qgi a b i;have hcn:=qve a b i (.tp 2);have l8:((List.replicate (b.length+1) (Value.int .i64 0)).map AV.v)=(yt a b i (b.length+1) 0).map fun n=>Iv n:=by rw [q6v];simp
  by_cases fc:i<a.length+1
  ·apply qf []
   repeat' (first|apply And.intro|(intro h;try exact cDd)|apply zap|(refine locX (zc8 (n:=b.length) rfl (fun _=>congrArg (fun x:Int=>Iv x) (by omega)) rfl (fun _=>congrArg (fun x:Int=>Iv x) (by omega)) rfl rfl rfl rfl rfl rfl (show 8 * (b.length+1)≤281474976710656 by omega) (by omega) ?_))|(refine locX (q67 rfl rfl rfl rfl rfl rfl ?_))|(refine locX (q3d rfl rfl rfl rfl rfl (by simp) rfl rfl rfl rfl (by simp only [List.length_cons,List.length_nil];omega) ?_))|(refine locK ?_)|exact cSd|apply qd []|refine exr ?_|refine qk ?_)
   refine j5 (X:=Nat) (fun j=>⟨[(1,.a (xm b)),(5,.bx 0 0),(6,.i i),(14,.i (a.length+1)),(15,.i i),(26,.tp 2),(33,.i (b.length+1)),(34,.i j)],tblH a b i j,3⟩) (fun j=>j≤b.length+1) (fun j=>b.length+1 - j) 0 (by omega) ?_ ?_
   ·skip
    repeat' (first|apply And.intro|(intro h;try exact cDd)|exact cSd|apply qd []|refine exr ?_|refine qk ?_)
    all_goals first|rfl|(rw [l8];done)|(simp [SV.evs,SV.rens,SV.ren,SV.ev];done)
   ·rintro j hj
    have t6:=qwk a b i (n:=b.length+1) (j:=j) (by omega);by_cases hjn:j<b.length+1
    ·have d6:=zga a b i j (by omega) (by omega) ha hb hf
     have hz:((yt a b i (b.length+1) j).map fun n=>Iv n)[j]? = some (Iv 0):=by
      unfold yt;rw [List.getElem?_map,List.getElem?_append_right (by rw [qfy];omega),qfy,Nat.sub_self,List.getElem?_replicate,if_pos (by omega)];rfl
     have hs:((yt a b i (b.length+1) j).map fun n=>Iv n).set j (Iv (j6 a b i j))=(yt a b i (b.length+1) (j+1)).map fun n=>Iv n:=by
      rw [← q98 a b i hjn,List.map_set]
     apply qf [];repeat' (first|apply And.intro|(intro h;try exact cDd)|(refine qjn (i:=i) rfl rfl rfl rfl rfl rfl (by simp only [List.length_cons,List.length_nil];omega) ?_)|(refine qjo (i:=i) rfl rfl rfl rfl hcn rfl ?_)|exact⟨Tryz.call183⟩|(refine Exists.intro _ ⟨ze8 d6 ⟨rfl,rfl,rfl,trivial⟩,?_⟩)|(refine qbm (i:=j) rfl rfl rfl rfl rfl rfl (by omega) ?_)|(refine qji (i:=j) (j:=0) (z:=Iv 0) (z':=Iv (j6 a b i j)) (u:=Iv (j6 a b i j)) rfl rfl (fun _=>rfl) rfl rfl rfl hz rfl rfl ?_)|(refine Exists.intro (j+1) ⟨by omega,by omega,?_⟩)|exact cSd|apply qd []|refine exr ?_|refine qk ?_)
     all_goals first|rfl|(rw [hs];done)|(simp [SV.evs,SV.rens,SV.ren,SV.ev];done)
    ·have hjn:j=b.length+1:=by omega
     subst hjn
     have b8:((yt a b i (b.length+1) (b.length+1)).map fun n=>Iv n)≠[]:=fun h=>by
      rw [h] at t6;simp at t6
     have hsn:qa2 a b (i+1)=qa2 a b i++[.sl 1 ((yt a b i (b.length+1) (b.length+1)).map fun n=>Iv n) none]:=by rw [q50,q6u]
     refine zdx (b:=1) (r:=2) rfl rfl b8 ?_;apply qf [];repeat' (first|apply And.intro|(intro h;try exact cDd)|(refine Exists.intro (i+1) ⟨by omega,by omega,?_⟩)|exact cSd|apply qd []|refine exr ?_|refine qk ?_)
     all_goals first|rfl|(rw [hsn];done)|(simp [SV.evs,SV.rens,SV.ren,SV.ev];done)
  ·have fc:i=a.length+1:=by omega
   subst fc;refine q3e (b:=1) rfl ?_;apply qf [];repeat' (first|apply And.intro|(intro h;try exact cDd)|exact cSd|apply qd []|refine exr ?_|refine qk ?_)
set_option maxHeartbeats 4000000 in
theorem zim (a b:List (List Fld)) (i j:Nat) (st:List AObj) (h0:¬ (i=0∧j=0)) (hi:i≤a.length) (hj:j≤b.length) (ha:a.length<1000000) (hb:b.length<1000000) (hf:∀ r∈a,r.length<1000000):qo E 184 [tblA a b,Iv i,Iv j] st fun r st'=>r=Iv (xe a b i j)∧st'=st:=by
 refine zw [.a (tblA a b),.i i,.i j] (q8 _) Tryz.func184 rfl rfl (fun _=>rfl) rfl fun S0=>?_;rw [← zcu];have dg:=qm2 a b (show i<a.length+1 by omega);have g0:=qil a b i (n:=b.length+1) (j:=j) (by omega);have p0:=qen a b i j
 cases i with
 |zero=>
  have hn:qjf 0 j (decide (a[0 - 1]? = b[j - 1]?)) (j6 a b (0 - 1) (j - 1)) (j6 a b (0 - 1) j) (j6 a b 0 j)=4:=by simp [qjf]
  rw [hn];apply qf [];repeat' (first|apply And.intro|(intro h;try exact cDd)|(refine Exists.intro (0) ⟨by omega,_,dg,?_⟩)|(refine Exists.intro (j) ⟨by omega,_,g0,?_⟩)|exact cSd|apply qd []|refine exr ?_|refine qk ?_)
  all_goals first|rfl|(simp;done)
 |succ i=>
  simp only [Nat.add_sub_cancel];have dj:=qm2 a b (show i<a.length+1 by omega);have g1:=qil a b i (n:=b.length+1) (j:=j) (by omega);have p1:=qen a b i j
  cases j with
  |zero=>
   have e1:j6 a b (i+1) 0=j6 a b i 0+1:=by rw [qt5,qt5];omega
   have hn:qjf (i+1) 0 (decide (a[i]? = b[0 - 1]?)) (j6 a b i (0 - 1)) (j6 a b i 0) (j6 a b (i+1) 0)=3:=by
    unfold qjf;rw [if_neg (by omega),if_neg (by omega),if_pos ⟨by omega,by omega⟩]
   rw [hn];generalize j6 a b (i+1) 0=c0 at *;generalize j6 a b i 0=c1 at *;apply qf [];repeat' (first|apply And.intro|(intro h;try exact cDd)|(refine Exists.intro ((i+1)) ⟨by omega,_,dg,?_⟩)|(refine Exists.intro (i) ⟨by omega,_,dj,?_⟩)|(refine Exists.intro (0) ⟨by omega,_,g0,?_⟩)|(refine Exists.intro (0) ⟨by omega,_,g1,?_⟩)|exact cSd|apply qd []|refine exr ?_|refine qk ?_)
   all_goals first|rfl|(simp;done)|omega
  |succ j=>
   simp only [Nat.add_sub_cancel];have hx:=qlz (R:=a) (k:=i) (by omega);have hy:=qlz (R:=b) (k:=j) (by omega);have hs:=fun st=>q35 (a[i]'(by omega)) (b[j]'(by omega)) st (hf _ (List.getElem_mem _));have g2:=qil a b i (n:=b.length+1) (j:=j) (by omega);have p2:=qen a b i j;have ei:a[i]? = some (a[i]'(by omega)):=List.getElem?_eq_getElem (by omega);have ej:b[j]? = some (b[j]'(by omega)):=List.getElem?_eq_getElem (by omega);rw [ei,ej];simp only [Option.some.injEq];generalize a[i]'(by omega)=x at *;generalize b[j]'(by omega)=y at *;generalize j6 a b (i+1) (j+1)=c0 at *;generalize j6 a b i (j+1)=c1 at *;generalize j6 a b i j=c2 at *
   have hl:∀ q:Bool,qjf (i+1) (j+1) q c2 c1 c0=if q=true∧c2=c0 then 1 else if c2=c0 - 1 then 2 else if c1=c0 - 1 then 3 else 4:=fun q=>by
    unfold qjf;simp
   rw [hl];by_cases hxy:x=y
   ·rw [decide_eq_true hxy] at hs ⊢
    simp only [true_and];by_cases h1:c2=c0
    ·rw [if_pos h1]
     apply qf [];repeat' (first|apply And.intro|(intro h;try exact cDd)|(refine Exists.intro ((i+1)) ⟨by omega,_,dg,?_⟩)|(refine Exists.intro (i) ⟨by omega,_,dj,?_⟩)|(refine Exists.intro ((j+1)) ⟨by omega,_,g0,?_⟩)|(refine Exists.intro ((j+1)) ⟨by omega,_,g1,?_⟩)|(refine Exists.intro (j) ⟨by omega,_,g2,?_⟩)|(refine Exists.intro (i) ⟨by omega,_,hx,?_⟩)|(refine Exists.intro (j) ⟨by omega,_,hy,?_⟩)|exact⟨Tryz.call216⟩|refine cpe hs ?_|exact cSd|apply qd []|refine exr ?_|refine qk ?_)
     all_goals first|rfl|(simp;done)|omega
    ·rw [if_neg h1]
     by_cases h2:c2=c0 - 1
     ·rw [if_pos h2]
      apply qf [];repeat' (first|apply And.intro|(intro h;try exact cDd)|(refine Exists.intro ((i+1)) ⟨by omega,_,dg,?_⟩)|(refine Exists.intro (i) ⟨by omega,_,dj,?_⟩)|(refine Exists.intro ((j+1)) ⟨by omega,_,g0,?_⟩)|(refine Exists.intro ((j+1)) ⟨by omega,_,g1,?_⟩)|(refine Exists.intro (j) ⟨by omega,_,g2,?_⟩)|(refine Exists.intro (i) ⟨by omega,_,hx,?_⟩)|(refine Exists.intro (j) ⟨by omega,_,hy,?_⟩)|exact⟨Tryz.call216⟩|refine cpe hs ?_|exact cSd|apply qd []|refine exr ?_|refine qk ?_)
      all_goals first|rfl|(simp;done)|omega
     ·rw [if_neg h2]
      by_cases h3:c1=c0 - 1
      ·rw [if_pos h3]
       apply qf [];repeat' (first|apply And.intro|(intro h;try exact cDd)|(refine Exists.intro ((i+1)) ⟨by omega,_,dg,?_⟩)|(refine Exists.intro (i) ⟨by omega,_,dj,?_⟩)|(refine Exists.intro ((j+1)) ⟨by omega,_,g0,?_⟩)|(refine Exists.intro ((j+1)) ⟨by omega,_,g1,?_⟩)|(refine Exists.intro (j) ⟨by omega,_,g2,?_⟩)|(refine Exists.intro (i) ⟨by omega,_,hx,?_⟩)|(refine Exists.intro (j) ⟨by omega,_,hy,?_⟩)|exact⟨Tryz.call216⟩|refine cpe hs ?_|exact cSd|apply qd []|refine exr ?_|refine qk ?_)
       all_goals first|rfl|(simp;done)|omega
      ·rw [if_neg h3]
       apply qf [];repeat' (first|apply And.intro|(intro h;try exact cDd)|(refine Exists.intro ((i+1)) ⟨by omega,_,dg,?_⟩)|(refine Exists.intro (i) ⟨by omega,_,dj,?_⟩)|(refine Exists.intro ((j+1)) ⟨by omega,_,g0,?_⟩)|(refine Exists.intro ((j+1)) ⟨by omega,_,g1,?_⟩)|(refine Exists.intro (j) ⟨by omega,_,g2,?_⟩)|(refine Exists.intro (i) ⟨by omega,_,hx,?_⟩)|(refine Exists.intro (j) ⟨by omega,_,hy,?_⟩)|exact⟨Tryz.call216⟩|refine cpe hs ?_|exact cSd|apply qd []|refine exr ?_|refine qk ?_)
       all_goals first|rfl|(simp;done)|omega
   ·rw [decide_eq_false hxy] at hs ⊢
    rw [if_neg (by simp)];by_cases h2:c2=c0 - 1
    ·rw [if_pos h2]
     apply qf [];repeat' (first|apply And.intro|(intro h;try exact cDd)|(refine Exists.intro ((i+1)) ⟨by omega,_,dg,?_⟩)|(refine Exists.intro (i) ⟨by omega,_,dj,?_⟩)|(refine Exists.intro ((j+1)) ⟨by omega,_,g0,?_⟩)|(refine Exists.intro ((j+1)) ⟨by omega,_,g1,?_⟩)|(refine Exists.intro (j) ⟨by omega,_,g2,?_⟩)|(refine Exists.intro (i) ⟨by omega,_,hx,?_⟩)|(refine Exists.intro (j) ⟨by omega,_,hy,?_⟩)|exact⟨Tryz.call216⟩|refine cpe hs ?_|exact cSd|apply qd []|refine exr ?_|refine qk ?_)
     all_goals first|rfl|(simp;done)|omega
    ·rw [if_neg h2]
     by_cases h3:c1=c0 - 1
     ·rw [if_pos h3]
      apply qf [];repeat' (first|apply And.intro|(intro h;try exact cDd)|(refine Exists.intro ((i+1)) ⟨by omega,_,dg,?_⟩)|(refine Exists.intro (i) ⟨by omega,_,dj,?_⟩)|(refine Exists.intro ((j+1)) ⟨by omega,_,g0,?_⟩)|(refine Exists.intro ((j+1)) ⟨by omega,_,g1,?_⟩)|(refine Exists.intro (j) ⟨by omega,_,g2,?_⟩)|(refine Exists.intro (i) ⟨by omega,_,hx,?_⟩)|(refine Exists.intro (j) ⟨by omega,_,hy,?_⟩)|exact⟨Tryz.call216⟩|refine cpe hs ?_|exact cSd|apply qd []|refine exr ?_|refine qk ?_)
      all_goals first|rfl|(simp;done)|omega
     ·rw [if_neg h3]
      apply qf [];repeat' (first|apply And.intro|(intro h;try exact cDd)|(refine Exists.intro ((i+1)) ⟨by omega,_,dg,?_⟩)|(refine Exists.intro (i) ⟨by omega,_,dj,?_⟩)|(refine Exists.intro ((j+1)) ⟨by omega,_,g0,?_⟩)|(refine Exists.intro ((j+1)) ⟨by omega,_,g1,?_⟩)|(refine Exists.intro (j) ⟨by omega,_,g2,?_⟩)|(refine Exists.intro (i) ⟨by omega,_,hx,?_⟩)|(refine Exists.intro (j) ⟨by omega,_,hy,?_⟩)|exact⟨Tryz.call216⟩|refine cpe hs ?_|exact cSd|apply qd []|refine exr ?_|refine qk ?_)
      all_goals first|rfl|(simp;done)|omega
end Go.Proofs.YtapblfabkbdgcaaGreatDoor
namespace Go.Pl
open Go Go.Proofs
def revP (ns:List Int) (i:Nat):List Int:=(List.range ns.length).map fun k=>if k<i∨ns.length - i≤k then ns.getD (ns.length - 1 - k) 0 else ns.getD k 0
theorem qfx (ns:List Int) (i:Nat):(revP ns i).length=ns.length:=by simp [revP]
theorem qfw (ns:List Int) (i:Nat) {k:Nat} (h:k<ns.length):(revP ns i)[k]? = some (if k<i∨ns.length - i≤k then ns.getD (ns.length - 1 - k) 0 else ns.getD k 0):=by
 unfold revP;rw [List.getElem?_map,List.getElem?_range h];rfl
theorem zai (ns:List Int):revP ns 0=ns:=by
 refine List.ext_getElem? fun k=>?_;by_cases h:k<ns.length
 ·rw [qfw ns 0 h,if_neg (by omega),List.getElem?_eq_getElem h,List.getD_eq_getElem?_getD,List.getElem?_eq_getElem h]
  rfl
 ·rw [List.getElem?_eq_none (by rw [qfx];omega),List.getElem?_eq_none (by omega)]
theorem zah (ns:List Int) {i j:Nat} (h:i<j) (hj:i+j+1=ns.length):((revP ns i).set i (ns.getD j 0)).set j (ns.getD i 0)=revP ns (i+1):=by
 refine List.ext_getElem? fun k=>?_;by_cases hk:k<ns.length
 ·rw [qfw ns (i+1) hk,List.getElem?_set,List.getElem?_set,qfw ns i hk]
  simp only [List.length_set,qfx];by_cases e1:j=k
  ·subst e1
   rw [if_pos rfl,if_pos hk,if_pos (by omega),show ns.length - 1 - j=i by omega]
  ·rw [if_neg e1]
   by_cases e2:i=k
   ·subst e2
    rw [if_pos rfl,if_pos hk,if_pos (by omega),show ns.length - 1 - i=j by omega]
   ·rw [if_neg e2]
    by_cases c:k<i∨ns.length - i≤k
    ·rw [if_pos c,if_pos (by omega)]
    ·rw [if_neg c,if_neg (by omega)]
 ·rw [List.getElem?_eq_none (by simp [qfx];omega),List.getElem?_eq_none (by rw [qfx];omega)]
theorem zdv (ns:List Int) {i:Nat} (h:ns.length≤2 * i+1):revP ns i=ns.reverse:=by
 refine List.ext_getElem? fun k=>?_;by_cases hk:k<ns.length
 ·rw [qfw ns i hk,List.getElem?_reverse hk,List.getElem?_eq_getElem (show ns.length - 1 - k<ns.length by omega)]
  by_cases c:k<i∨ns.length - i≤k
  ·rw [if_pos c,List.getD_eq_getElem?_getD,List.getElem?_eq_getElem (show ns.length - 1 - k<ns.length by omega)]
   rfl
  ·have e:ns.length - 1 - k=k:=by omega
   rw [if_neg c,List.getD_eq_getElem?_getD,List.getElem?_eq_getElem hk];simp only [e];rfl
 ·rw [List.getElem?_eq_none (by rw [qfx];omega),List.getElem?_eq_none (by simp;omega)]
end Go.Pl
namespace Go.Proofs.YtapblfabkbdgcaaGreatDoor
open Go Go.Av Go.RowKit Go.Proofs Go.Pl
theorem zju (ns:List Int) (hl:ns.length<1000000000):ko E 185 [.tp 0] 1 (hpF [(0,some (.own 1 3 (ns.map fun n=>Iv n)))]) ⟨.tu [],j7 [(0,some (SR.own 1 3 (ns.map fun n=>Iv n)))],[(0,some (.own 1 3 (ns.reverse.map fun n=>Iv n)))]++vh [(0,some (SR.own 1 3 (ns.map fun n=>Iv n)))],1⟩:=by
 refine wq [.tp 0] [(0,some (.own 1 3 (ns.map fun n=>Iv n)))] 1 (.tu []) [(0,some (.own 1 3 (ns.reverse.map fun n=>Iv n)))] 1 Tryz.func185 rfl rfl rfl rfl fun S F ρ=>?_;have i6:(ns.map fun n=>Iv n).length=ns.length:=by simp
 apply qf [];repeat' (first|apply And.intro|(intro h;try exact cDd)|exact cSd|apply qd []|refine exr ?_|refine qk ?_)
 refine j5 (X:=Nat) (fun i=>⟨[(0,.tp 0),(2,.i i),(3,.i ((ns.length:Int) - 1 - i))],[(0,some (.own 1 3 ((revP ns i).map fun n=>Iv n)))],1⟩) (fun i=>2 * i≤ns.length+1) (fun i=>ns.length - i) 0 (by omega) ?_ ?_
 ·skip
  repeat' (first|apply And.intro|(intro h;try exact cDd)|exact cSd|apply qd []|refine exr ?_|refine qk ?_)
  all_goals first|rfl|(rw [zai];done)|(rw [i6];simp;done)|(simp;done)
 ·rintro i hi
  have c8:((revP ns i).map fun n=>Iv n).length=ns.length:=by rw [List.length_map,qfx]
  by_cases h:2 * i+1<ns.length
  ·obtain⟨j,hj⟩:∃ j,i+j+1=ns.length:=⟨ns.length - 1 - i,by omega⟩
   have g1:((revP ns i).map fun n=>Iv n)[i]? = some (Iv (ns.getD i 0)):=by rw [List.getElem?_map,qfw ns i (by omega),if_neg (by omega)];rfl
   have g2:((revP ns i).map fun n=>Iv n)[j]? = some (Iv (ns.getD j 0)):=by rw [List.getElem?_map,qfw ns i (by omega),if_neg (by omega)];rfl
   have g3:(((revP ns i).map fun n=>Iv n).set i (Iv (ns.getD j 0)))[j]? = some (Iv (ns.getD j 0)):=by rw [List.getElem?_set_ne (by omega)];exact g2
   have hs:(((revP ns i).map fun n=>Iv n).set i (Iv (ns.getD j 0))).set j (Iv (ns.getD i 0))=(revP ns (i+1)).map fun n=>Iv n:=by
    rw [← zah ns (by omega:i<j) hj,List.map_set,List.map_set]
   apply qf [];repeat' (first|apply And.intro|(intro h;try exact cDd)|(refine qbm (i:=i) rfl rfl rfl rfl rfl rfl (by first|omega|(rw [List.length_set];omega)) ?_)|(refine qbm (i:=j) rfl rfl rfl (ix64 (by omega)) rfl rfl (by first|omega|(rw [List.length_set];omega)) ?_)|(refine qc0 (i:=i) (j:=0) rfl rfl rfl rfl g1 rfl rfl ?_)|(refine qc0 (i:=j) (j:=0) rfl rfl rfl rfl g2 rfl rfl ?_)|(refine qji (i:=i) (j:=0) (z:=Iv (ns.getD i 0)) (z':=Iv (ns.getD j 0)) (u:=Iv (ns.getD j 0)) rfl rfl (fun _=>rfl) rfl rfl rfl g1 rfl rfl ?_)|(refine qji (i:=j) (j:=0) (z:=Iv (ns.getD j 0)) (z':=Iv (ns.getD i 0)) (u:=Iv (ns.getD i 0)) rfl rfl (fun _=>rfl) rfl rfl rfl g3 rfl rfl ?_)|(refine Exists.intro (i+1) ⟨by omega,by omega,?_⟩)|exact cSd|apply qd []|refine exr ?_|refine qk ?_)
   all_goals first|rfl|(rw [hs];done)|exact congrArg (fun n:Int=>Iv n) (by omega)|(simp;done)
  ·rw [zdv ns (by omega)]
   apply qf [];repeat' (first|apply And.intro|(intro h;try exact cDd)|exact cSd|apply qd []|refine exr ?_|refine qk ?_)
   all_goals first|rfl|(simp;done)
set_option maxHeartbeats 1000000 in
theorem zj0 (a b:List (List Fld)) (st:List AObj) (ha:a.length<1000000) (hb:b.length<1000000) (hf:∀ r∈a,r.length<1000000):qo E 161 [tblA a b] st fun r st'=>r=qf9 (wayF a b)∧st'=st:=by
 refine qlu [.a (tblA a b)] (qfd _) Tryz.func161 rfl rfl (fun _=>rfl) rfl fun S0=>?_;have hma:(a.map zp).length=a.length:=by simp
 have hmb:(b.map zp).length=b.length:=by simp
 have hwl:=qq3 a b;apply qf [];repeat' (first|apply And.intro|(intro h;try exact cDd)|exact cSd|apply qd []|refine exr ?_|refine qk ?_)
 refine j5 (X:=List Int×Nat×Nat×Nat) (fun (out,n,i,j)=>⟨[(0,.a (tblA a b)),(3,.tp 0),(4,.i i),(5,.i j)],[(0,some (.own 1 3 (out.map fun n=>Iv n)))],1⟩) (fun (out,n,i,j)=>qg6 a b out n i j) (fun (out,n,i,j)=>i+j) ([],a.length+b.length,a.length,b.length) (zbc a b) ?_ ?_
 ·skip
  repeat' (first|apply And.intro|(intro h;try exact cDd)|exact cSd|apply qd []|refine exr ?_|refine qk ?_)
  all_goals first|rfl|(simp;done)
 ·rintro⟨out,n,i,j⟩ hW
  have h1:=hW.hi;have h2:=hW.hj
  have fm:out.length≤a.length+b.length:=by
   have:=congrArg List.length hW.eq;rw [List.length_reverse,List.length_append] at this;omega
  have i6:(out.map fun n=>Iv n).length=out.length:=by simp
  by_cases h0:i=0∧j=0
  ·obtain⟨rfl,rfl⟩:=h0
   have he:=zhq hW;have hr:=zju out (by omega);rw [he] at hr;apply qf [];repeat' (first|apply And.intro|(intro h;try exact cDd)|exact⟨Tryz.call185⟩|(refine jk hr ?_)|exact cSd|apply qd []|refine exr ?_|refine qk ?_)
   all_goals first|rfl|(simp;done)
  ·have hc:=fun st=>zim a b i j st h0 h1 h2 ha hb hf
   obtain⟨m,hm,hM⟩:=zec hW h0;have lw:=qnh a b i j;have hlr:=qlj a b i j h0;rcases qni a b i j with e|e|e|e
   ·rw [e] at hc hM lw hlr
    obtain⟨i,rfl⟩:∃ k,i=k+1:=⟨i - 1,by have:=lw (by decide);omega⟩;obtain⟨j,rfl⟩:∃ k,j=k+1:=⟨j - 1,by have:=hlr (by decide);omega⟩;have hM:qg6 a b (out++[1]) m i j:=by simpa using hM
    apply qf [];repeat' (first|apply And.intro|(intro h;try exact cDd)|exact⟨Tryz.call184⟩|refine cpe hc ?_|(refine qfg (ys:=[Iv 1]) rfl rfl rfl rfl rfl rfl rfl rfl (by simp only [List.length_cons,List.length_nil];omega) rfl ?_)|(refine Exists.intro (out++[1],m,i,j) ⟨hM,by simp only;omega,?_⟩)|exact cSd|apply qd []|refine exr ?_|refine qk ?_)
    all_goals first|rfl|exact congrArg (fun n:Int=>Iv n) (by omega)|(simp;done)
   ·rw [e] at hc hM lw hlr
    obtain⟨i,rfl⟩:∃ k,i=k+1:=⟨i - 1,by have:=lw (by decide);omega⟩;obtain⟨j,rfl⟩:∃ k,j=k+1:=⟨j - 1,by have:=hlr (by decide);omega⟩;have hM:qg6 a b (out++[2]) m i j:=by simpa using hM
    apply qf [];repeat' (first|apply And.intro|(intro h;try exact cDd)|exact⟨Tryz.call184⟩|refine cpe hc ?_|(refine qfg (ys:=[Iv 2]) rfl rfl rfl rfl rfl rfl rfl rfl (by simp only [List.length_cons,List.length_nil];omega) rfl ?_)|(refine Exists.intro (out++[2],m,i,j) ⟨hM,by simp only;omega,?_⟩)|exact cSd|apply qd []|refine exr ?_|refine qk ?_)
    all_goals first|rfl|exact congrArg (fun n:Int=>Iv n) (by omega)|(simp;done)
   ·rw [e] at hc hM lw
    obtain⟨i,rfl⟩:∃ k,i=k+1:=⟨i - 1,by have:=lw (by decide);omega⟩;have hM:qg6 a b (out++[3]) m i j:=by simpa using hM
    apply qf [];repeat' (first|apply And.intro|(intro h;try exact cDd)|exact⟨Tryz.call184⟩|refine cpe hc ?_|(refine qfg (ys:=[Iv 3]) rfl rfl rfl rfl rfl rfl rfl rfl (by simp only [List.length_cons,List.length_nil];omega) rfl ?_)|(refine Exists.intro (out++[3],m,i,j) ⟨hM,by simp only;omega,?_⟩)|exact cSd|apply qd []|refine exr ?_|refine qk ?_)
    all_goals first|rfl|exact congrArg (fun n:Int=>Iv n) (by omega)|(simp;done)
   ·rw [e] at hc hM hlr
    obtain⟨j,rfl⟩:∃ k,j=k+1:=⟨j - 1,by have:=hlr (by decide);omega⟩;have hM:qg6 a b (out++[4]) m i j:=by simpa using hM
    apply qf [];repeat' (first|apply And.intro|(intro h;try exact cDd)|exact⟨Tryz.call184⟩|refine cpe hc ?_|(refine qfg (ys:=[Iv 4]) rfl rfl rfl rfl rfl rfl rfl rfl (by simp only [List.length_cons,List.length_nil];omega) rfl ?_)|(refine Exists.intro (out++[4],m,i,j) ⟨hM,by simp only;omega,?_⟩)|exact cSd|apply qd []|refine exr ?_|refine qk ?_)
    all_goals first|rfl|exact congrArg (fun n:Int=>Iv n) (by omega)|(simp;done)
theorem zh8 (a b:List (List Fld)) (st:List AObj) (ha:a.length<1000000) (hb:b.length<1000000) (hf:∀ r∈a,r.length<1000000):qo E 117 [xm a,xm b] st fun r st'=>r=qf9 (wayF a b)∧st'=st:=by
 refine zw [.a (xm a),.a (xm b)] (qfd _) Tryz.func117 rfl rfl (fun _=>rfl) rfl fun S0=>?_;have ht:=fun st=>zd6 a b st ha hb hf;have hw:=fun st=>zj0 a b st ha hb hf;apply qf [];repeat' (first|apply And.intro|(intro h;try exact cDd)|exact⟨Tryz.call160⟩|refine cpe ht ?_|exact⟨Tryz.call161⟩|refine cpe hw ?_|exact cSd|apply qd []|refine exr ?_|refine qk ?_)
theorem q34 (l:q9) (st:List AObj) (hl:l.ents.length<1000000) (hI:∀ e∈l.ents,e.x.fields.length<1000000):qo E 46 [vt l] st fun r st'=>r=xm (xy l)∧st'=st:=by
 refine zw [.a (vt l)] (qhn _) Tryz.func46 rfl rfl (fun _=>rfl) rfl fun S0=>?_;have hz:=fun st=>qsm l st hl hI;have dv:=qin l.ents;unfold xy;generalize stzF l.ents=s at *;have hms:(s.map stzA).length=s.length:=by simp
 apply qf [];repeat' (first|apply And.intro|(intro h;try exact cDd)|exact⟨Tryz.call81⟩|refine cpe hz ?_|exact cSd|apply qd []|refine exr ?_|refine qk ?_)
 refine j5 (X:=Nat) (fun k=>⟨[(3,.tp 0),(7,.a (qxz s)),(8,.i s.length),(9,.i k)],[(0,some (.tip 1 53 (((s.take k).map Prod.snd).map zp)))],1⟩) (fun k=>k≤s.length) (fun k=>s.length - k) 0 (by omega) ?_ ?_
 ·skip
  repeat' (first|apply And.intro|(intro h;try exact cDd)|exact cSd|apply qd []|refine exr ?_|refine qk ?_)
  all_goals first|rfl|(simp;done)
 ·rintro k hk
  by_cases i7:k<s.length
  ·have hx:s[k]? = some s[k]:=List.getElem?_eq_getElem i7
   have m3:(s.map stzA)[k]? = some (stzA s[k]):=by rw [List.getElem?_map,hx];rfl
   have r6:=qn0 hx;have htl:(((s.take k).map Prod.snd).map zp).length≤s.length:=by simp;omega
   generalize s[k]=x at hx m3 r6;apply qf [];repeat' (first|apply And.intro|(intro h;try exact cDd)|(refine Exists.intro (k) ⟨by omega,_,m3,?_⟩)|(refine Exists.intro (k+1) ⟨by omega,by omega,?_⟩)|exact cSd|apply qd []|refine exr ?_|refine qk ?_)
   all_goals first|rfl|(rw [r6];simp;done)|(simp;omega)
  ·have i7:k=s.length:=by omega
   subst i7;rw [List.take_length];apply qf [];repeat' (first|apply And.intro|(intro h;try exact cDd)|exact cSd|apply qd []|refine exr ?_|refine qk ?_)
@[reducible] def wkH (n : Nat) (S : List (Int × List Fld)) (R : List (List Fld)) (bh nx : Int) (out : List qp) : List (Nat × Option SR) := [(0, some (.cells 199 [.a (qxz S), .a (xm R), .i bh, .i nx, .tp n])), (n, some (.tip 3 55 (out.map z6)))]
theorem zhf (s:Int×List Fld) (S:List (Int×List Fld)) (r:List Fld) (R:List (List Fld)) (bh nx:Int) (out:List qp) (hr:r.length<1000000) (hS:S.length<1000000) (hR:R.length<1000000):ko E 118 [.bx 0 0,.i 1] 2 (hpF (wkH 1 (s::S) (r::R) bh nx out)) ⟨.tu [],j7 (wkH 1 (s::S) (r::R) bh nx out),wkH 1 S R s.1 nx out++vh (wkH 1 (s::S) (r::R) bh nx out),2⟩:=by
 refine wq [.bx 0 0,.i 1] (wkH 1 (s::S) (r::R) bh nx out) 2 (.tu []) (wkH 1 S R s.1 nx out) 2 Tryz.func118 rfl rfl rfl rfl fun S0 F ρ=>?_;have hc:=fun st=>qb7 r st hr;have h1:((s::S).map stzA)[0]? = some (stzA s):=rfl;have h2:((r::R).map zp)[0]? = some (zp r):=rfl;have l1:((s::S).map stzA).length=S.length+1:=by simp
 have l2:((r::R).map zp).length=R.length+1:=by simp
 apply qf [];repeat' (first|apply And.intro|(intro h;try exact cDd)|(refine Exists.intro (0) ⟨by omega,_,h1,?_⟩)|(refine Exists.intro (0) ⟨by omega,_,h2,?_⟩)|exact⟨Tryz.call91⟩|refine cpe hc ?_|exact cSd|apply qd []|refine exr ?_|refine qk ?_)
 all_goals first|rfl|(simp;done)
theorem zhg (s:Int×List Fld) (S:List (Int×List Fld)) (r:List Fld) (R:List (List Fld)) (bh nx:Int) (out:List qp) (hr:r.length<1000000) (hS:S.length<1000000) (hR:R.length<1000000) (ho:out.length<10000000):ko E 118 [.bx 0 0,.i 2] 2 (hpF (wkH 1 (s::S) (r::R) bh nx out)) ⟨.tu [],j7 (wkH 1 (s::S) (r::R) bh nx out),wkH 2 S R s.1 nx (out++[(⟨1,s.1,r⟩:qp)])++vh (wkH 1 (s::S) (r::R) bh nx out),3⟩:=by
 refine wq [.bx 0 0,.i 2] (wkH 1 (s::S) (r::R) bh nx out) 2 (.tu []) (wkH 2 S R s.1 nx (out++[(⟨1,s.1,r⟩:qp)])) 3 Tryz.func118 rfl rfl rfl rfl fun S0 F ρ=>?_;have hc:=fun st=>qb7 r st hr;have h1:((s::S).map stzA)[0]? = some (stzA s):=rfl;have h2:((r::R).map zp)[0]? = some (zp r):=rfl;have l1:((s::S).map stzA).length=S.length+1:=by simp
 have l2:((r::R).map zp).length=R.length+1:=by simp
 have l3:(out.map z6).length=out.length:=by simp
 apply qf [];repeat' (first|apply And.intro|(intro h;try exact cDd)|(refine Exists.intro (0) ⟨by omega,_,h1,?_⟩)|(refine Exists.intro (0) ⟨by omega,_,h2,?_⟩)|exact⟨Tryz.call91⟩|refine cpe hc ?_|exact cSd|apply qd []|refine exr ?_|refine qk ?_)
 all_goals first|rfl|(simp;done)|(simp [SV.evs,SV.rens,SV.ren,SV.ev];done)
theorem zhh (s:Int×List Fld) (S:List (Int×List Fld)) (R:List (List Fld)) (bh nx:Int) (out:List qp) (hS:S.length<1000000) (ho:out.length<10000000):ko E 118 [.bx 0 0,.i 3] 2 (hpF (wkH 1 (s::S) R bh nx out)) ⟨.tu [],j7 (wkH 1 (s::S) R bh nx out),wkH 2 S R bh nx (out++[(⟨2,s.1,[]⟩:qp)])++vh (wkH 1 (s::S) R bh nx out),3⟩:=by
 refine wq [.bx 0 0,.i 3] (wkH 1 (s::S) R bh nx out) 2 (.tu []) (wkH 2 S R bh nx (out++[(⟨2,s.1,[]⟩:qp)])) 3 Tryz.func118 rfl rfl rfl rfl fun S0 F ρ=>?_;have h1:((s::S).map stzA)[0]? = some (stzA s):=rfl;have l1:((s::S).map stzA).length=S.length+1:=by simp
 have l3:(out.map z6).length=out.length:=by simp
 apply qf [];repeat' (first|apply And.intro|(intro h;try exact cDd)|(refine Exists.intro (0) ⟨by omega,_,h1,?_⟩)|exact cSd|apply qd []|refine exr ?_|refine qk ?_)
 all_goals first|rfl|(simp;done)|(simp [SV.evs,SV.rens,SV.ren,SV.ev];done)
theorem zhi (S:List (Int×List Fld)) (r:List Fld) (R:List (List Fld)) (bh nx:Int) (out:List qp) (hr:r.length<1000000) (hR:R.length<1000000) (ho:out.length<10000000) (hn:0≤nx∧nx<100000000):ko E 118 [.bx 0 0,.i 4] 2 (hpF (wkH 1 S (r::R) bh nx out)) ⟨.tu [],j7 (wkH 1 S (r::R) bh nx out),wkH 2 S R nx (nx+1) (out++[(⟨3,bh,r⟩:qp)])++vh (wkH 1 S (r::R) bh nx out),3⟩:=by
 refine wq [.bx 0 0,.i 4] (wkH 1 S (r::R) bh nx out) 2 (.tu []) (wkH 2 S R nx (nx+1) (out++[(⟨3,bh,r⟩:qp)])) 3 Tryz.func118 rfl rfl rfl rfl fun S0 F ρ=>?_;have hc:=fun st=>qb7 r st hr;have h2:((r::R).map zp)[0]? = some (zp r):=rfl;have l2:((r::R).map zp).length=R.length+1:=by simp
 have l3:(out.map z6).length=out.length:=by simp
 apply qf [];repeat' (first|apply And.intro|(intro h;try exact cDd)|(refine Exists.intro (0) ⟨by omega,_,h2,?_⟩)|exact⟨Tryz.call91⟩|refine cpe hc ?_|exact cSd|apply qd []|refine exr ?_|refine qk ?_)
 all_goals first|rfl|(simp;done)|(simp [SV.evs,SV.rens,SV.ren,SV.ev];done)
set_option maxHeartbeats 1000000 in
theorem zb3 (text:qc) (R:List (List Fld)) (st:List AObj) (hR:∀ r∈R,zv r = .no) (dk:R.length<1000000):qo E 80 [vt (ofF (itsE text)),xm R] st fun r st'=>r=qhu (wo (ofF (itsE text)) R)∧st'=st:=by
 have hB:=qff text;have hI:=qsu text;have o6:=hB.len;have r8:=hB.nx0;have cq:=hB.nx1;have hz:=fun st=>qsm (ofF (itsE text)) st (by omega) fun e he=>by have:=(hI e he).2;omega
 have hn:=fun st=>zgd (ofF (itsE text)) st;have hr:=fun st=>q34 (ofF (itsE text)) st (by omega) fun e he=>by have:=(hI e he).2;omega
 have dv:=qin (ofF (itsE text)).ents;have hrf:∀ r∈R,r.length<1000000:=fun r h=>by have:=(qe8 (hR r h)).2.1;omega
 have hw:=fun st=>zh8 (xy (ofF (itsE text))) R st (by unfold xy;rw [List.length_map];omega) dk fun r hr=>by
  unfold xy at hr;obtain⟨s,hs,rfl⟩:=List.mem_map.1 hr;obtain⟨e,he,rfl⟩:=List.mem_map.1 hs;have:=(hI e (List.mem_filter.1 he).1).2;simp only;omega
 have hwl:=qq3 (xy (ofF (itsE text))) R;have hrll:(xy (ofF (itsE text))).length=(stzF (ofF (itsE text)).ents).length:=by simp [xy]
 have d8:=zcc (quz (stzF (ofF (itsE text)).ents) R) 0 (ofF (itsE text)).next;refine zw [.a (vt (ofF (itsE text))),.a (xm R)] (qy6 _) Tryz.func80 rfl rfl (fun _=>rfl) rfl fun S0=>?_;unfold wo;unfold xy at hw hwl hrll hr;generalize ofF (itsE text)=l at *;generalize hws:wayF ((stzF l.ents).map Prod.snd) R=ws at *;generalize stzF l.ents=S1 at *;generalize zt ws S1 R 0 l.next=full at *;have i6:(ws.map fun n=>Iv n).length=ws.length:=by simp
 apply qf [18];repeat' (first|apply And.intro|(intro h;try exact cDd)|exact⟨Tryz.call81⟩|refine cpe hz ?_|exact⟨Tryz.call116⟩|refine cpe hn ?_|exact⟨Tryz.call46⟩|refine cpe hr ?_|exact⟨Tryz.call117⟩|refine cpe hw ?_|exact cSd|apply qd [18]|refine exr ?_|refine qk ?_)
 refine j5 (X:=Nat×List (Int×List Fld)×List (List Fld)×Int×Int×List qp) (fun (k,S,Q,bh,nx,out)=>⟨[(6,.bx 0 0),(22,.a (qf9 ws)),(23,.i ws.length),(24,.i k)],wkH 1 S Q bh nx out,2⟩)
  (fun (k,S,Q,bh,nx,out)=>(k≤ws.length∧EdAt full out (ws.drop k) S Q bh nx)∧out.length≤k∧0≤nx∧nx≤l.next+k∧S.length≤S1.length∧Q.length≤R.length∧∀ r∈Q,r.length<1000000) (fun (k,_)=>ws.length - k) (0,S1,R,0,l.next,[]) ⟨⟨by omega,by simpa using d8⟩,by simp,by omega,by omega,by omega,by omega,hrf⟩ ?_ ?_
 ·skip
  repeat' (first|apply And.intro|(intro h;try exact cDd)|exact cSd|apply qd []|refine exr ?_|refine qk ?_)
  all_goals first|rfl|(simp;done)
 ·rintro⟨k,S,Q,bh,nx,out⟩ ⟨⟨hk,hE⟩,ho,fj,hn1,hS,hQ,hQf⟩
  by_cases i7:k<ws.length
  ·have hx:ws[k]? = some ws[k]:=List.getElem?_eq_getElem i7
   have m3:(ws.map fun n=>Iv n)[k]? = some (Iv ws[k]):=by rw [List.getElem?_map,hx];rfl
   rw [List.drop_eq_getElem_cons i7] at hE;generalize ws[k]=w at hx m3 hE;rcases zfq hE with⟨rfl,s,S',Q',rfl,rfl,hE2⟩ | ⟨rfl,s,S',r,Q',rfl,rfl,hE2⟩ | ⟨rfl,s,S',rfl,hE2⟩ | ⟨rfl,r,Q',rfl,hE2⟩
   ·simp only [List.length_cons] at hS hQ
    have hc:=zhf s S' s.2 Q' bh nx out (hQf _ (by simp)) (by omega) (by omega);apply qf [];repeat' (first|apply And.intro|(intro h;try exact cDd)|(refine Exists.intro (k) ⟨by omega,_,m3,?_⟩)|exact⟨Tryz.call118⟩|(refine jk hc ?_)|(refine Exists.intro (k+1,S',Q',s.1,nx,out) ⟨⟨⟨by omega,hE2⟩,by omega,by omega,by omega,by omega,by omega,fun r hr=>hQf r (by simp [hr])⟩,by simp only;omega,?_⟩)|exact cSd|apply qd []|refine exr ?_|refine qk ?_)
    all_goals first|rfl|(simp;done)
   ·simp only [List.length_cons] at hS hQ
    have hc:=zhg s S' r Q' bh nx out (hQf _ (by simp)) (by omega) (by omega) (by omega);apply qf [];repeat' (first|apply And.intro|(intro h;try exact cDd)|(refine Exists.intro (k) ⟨by omega,_,m3,?_⟩)|exact⟨Tryz.call118⟩|(refine jk hc ?_)|(refine Exists.intro (k+1,S',Q',s.1,nx,out++[(⟨1,s.1,r⟩:qp)]) ⟨⟨⟨by omega,hE2⟩,by simp;omega,by omega,by omega,by omega,by omega,fun r hr=>hQf r (by simp [hr])⟩,by simp only;omega,?_⟩)|exact cSd|apply qd []|refine exr ?_|refine qk ?_)
    all_goals first|rfl|(simp;done)
   ·simp only [List.length_cons] at hS
    have hc:=zhh s S' Q bh nx out (by omega) (by omega);apply qf [];repeat' (first|apply And.intro|(intro h;try exact cDd)|(refine Exists.intro (k) ⟨by omega,_,m3,?_⟩)|exact⟨Tryz.call118⟩|(refine jk hc ?_)|(refine Exists.intro (k+1,S',Q,bh,nx,out++[(⟨2,s.1,[]⟩:qp)]) ⟨⟨⟨by omega,hE2⟩,by simp;omega,by omega,by omega,by omega,by omega,hQf⟩,by simp only;omega,?_⟩)|exact cSd|apply qd []|refine exr ?_|refine qk ?_)
    all_goals first|rfl|(simp;done)
   ·simp only [List.length_cons] at hQ
    have hc:=zhi S r Q' bh nx out (hQf _ (by simp)) (by omega) (by omega) (by omega);apply qf [];repeat' (first|apply And.intro|(intro h;try exact cDd)|(refine Exists.intro (k) ⟨by omega,_,m3,?_⟩)|exact⟨Tryz.call118⟩|(refine jk hc ?_)|(refine Exists.intro (k+1,S,Q',nx,nx+1,out++[(⟨3,bh,r⟩:qp)]) ⟨⟨⟨by omega,hE2⟩,by simp;omega,by omega,by omega,by omega,by omega,fun r hr=>hQf r (by simp [hr])⟩,by simp only;omega,?_⟩)|exact cSd|apply qd []|refine exr ?_|refine qk ?_)
    all_goals first|rfl|(simp;done)
  ·have i7:k=ws.length:=by omega
   subst i7;rw [List.drop_length] at hE;have hsq:=zgr hE.ok;have nv:=zia hE;rw [nv];have hmo:(out.map z6).length=out.length:=by simp
   unfold qhu;by_cases lg:40<out.length
   ·rw [if_pos lg]
    apply qf [];repeat' (first|apply And.intro|(intro h;try exact cDd)|exact cSd|apply qd []|refine exr ?_|refine qk ?_)
   ·rw [if_neg lg]
    apply qf [];repeat' (first|apply And.intro|(intro h;try exact cDd)|exact cSd|apply qd []|refine exr ?_|refine qk ?_)
end Go.Proofs.YtapblfabkbdgcaaGreatDoor
namespace Go.Av
open Go Go.RowKit
section
variable {E : Env} {N : Nat} {ops : Array Oper} {nx : Nat} {sl : List (Nat × SV)} {H : Nat → Option SR} {k : Ef → Prop} {d : Option Tmp} {T : TypeId} {p : String} {af : Array Edge}
@[reducible] def Wn (n : Nat) : AV := .v (.int .u32 (n : Int))
theorem qky {n:Nat} (h:n<4294967296):IntKind.u32.wrap (n:Int)=(n:Int):=by rw [qeh,Nat.mod_eq_of_lt h]
theorem zjg {t t':TypeId} {x y:Operand} {v u:SV} {a:Nat} {yk:IntKind} (hx:sval N sl x=some v) (hv:∀ ρ,v.ev ρ = Wn a) (hy:sval N sl y=some u) (hu:∀ ρ,u.ev ρ = .v (.int yk 4)) (ha:a<268435456) (h:k ⟨.a (Wn (a * 16)),[],[],nx⟩) :
  ∃ e,Loc E N ops ⟨d,.binOp .shl t x y t',T,p,af,none⟩ nx sl H e∧k e:=
 ⟨_,z8 (v:=.a (Wn (a * 16))) fun df rd K rest ρ t1 S hs hk=>qyl ((qv hs hx).trans (hv ρ)) ((qv hs hy).trans (hu ρ)) (by omega) (by
  have e:(a:Int) * 2 ^ (min (4:Int).toNat IntKind.u32.bits)=((a * 16:Nat):Int):=by
   have:min (4:Int).toNat IntKind.u32.bits=4:=rfl;rw [this];omega
  rw [e]
  exact qky (by omega)) hk,h⟩
theorem w_or {t t':TypeId} {x y:Operand} {v u:SV} {a n:Nat} (hx:sval N sl x=some v) (hv:∀ ρ,v.ev ρ = Wn (a * 16)) (hy:sval N sl y=some u) (hu:∀ ρ,u.ev ρ = Wn n) (ha:a<268435456) (hn:n<16) (h:k ⟨.a (Wn (16 * a+n)),[],[],nx⟩) :
  ∃ e,Loc E N ops ⟨d,.binOp .or t x y t',T,p,af,none⟩ nx sl H e∧k e:=
 ⟨_,z8 (v:=.a (Wn (16 * a+n))) fun df rd K rest ρ t1 S hs hk=>q3s ((qv hs hx).trans (hv ρ)) ((qv hs hy).trans (hu ρ)) (by
  have e:(BitVec.ofInt IntKind.u32.bits ((a * 16:Nat):Int) |||BitVec.ofInt IntKind.u32.bits (n:Int)).toNat=16 * a+n:=by
   rw [BitVec.toNat_or,BitVec.ofInt_natCast,BitVec.ofInt_natCast,BitVec.toNat_ofNat,BitVec.toNat_ofNat,show IntKind.u32.bits=32 from rfl,Nat.mod_eq_of_lt (by omega),Nat.mod_eq_of_lt (by omega)];exact Go.Pl.shl_or hn
  show IntKind.u32.wrap ((BitVec.ofInt IntKind.u32.bits ((a * 16:Nat):Int) |||BitVec.ofInt IntKind.u32.bits (n:Int)).toNat:Int)=_
  rw [e]
  exact qky (by omega)) hk,h⟩
end
end Go.Av
namespace Go.Pl
open Go Go.Proofs
def fndN (c:UInt8) (k:Nat):Nat:=match hexN c with
 |some n=>if n<k then n else 16
 |none=>16
theorem zih {c:UInt8} {k:Nat} (hk:k<16):((hexB.getD k 0).toNat:Int)=c.toNat↔hexN c=some k:=by
 constructor
 ·intro h
  have e:hexB.getD k 0=c:=UInt8.toNat_inj.1 (by omega);rw [← e];exact qqc hk
 ·intro h
  rw [(xu h).2]
theorem zck {c:UInt8} {k:Nat}:fndN c (k+1)=if hexN c=some k then k else fndN c k:=by
 unfold fndN
 cases h:hexN c with
 |none=>simp
 |some n=>
  by_cases e:n=k
  ·subst e;simp
  ·simp only [Option.some.injEq,e,if_false]
   by_cases h2:n<k
   ·rw [if_pos h2,if_pos (by omega)]
   ·rw [if_neg h2,if_neg (by omega)]
theorem zif (c:UInt8) (k:Nat):fndN c k≤16:=by
 unfold fndN;split
 ·rename_i n h
  have:=(xu h).1;split <;> omega
 ·omega
theorem zcj {c:UInt8} {n:Nat} (h:hexN c=some n):fndN c 16=n:=by
 unfold fndN;rw [h];exact if_pos (xu h).1
theorem zci {c:UInt8} (h:hexN c=none):fndN c 16=16:=by
 unfold fndN;rw [h]
theorem q0x {a i:Nat} (h:a<16 ^ i) {n:Nat} (hn:n<16):16 * a+n<16 ^ (i+1):=by
 rw [Nat.pow_succ];omega
theorem q0w {a i:Nat} (h:a<16 ^ i) (hi:i<8):a<268435456:=by
 have:16 ^ i≤16 ^ 7:=Nat.pow_le_pow_right (by omega) (by omega);omega
end Go.Pl
namespace Go.Proofs.YtapblfabkbdgcaaGreatDoor
open Go Go.Av Go.RowKit Go.Proofs Go.Pl
def qot (o:Option (BitVec 32)):AV:=.tu [Wv (o.getD 0),Bv o.isSome]
theorem qtk (o:Option (BitVec 32)):Pure (qot o):=j9 (q8 _) (q8 _)
theorem q4z (s:qc) (st:List AObj):qo E 41 [Sv s] st fun r st'=>r=qot (yc s)∧st'=st:=by
 refine zw [.s s] (qtk _) Tryz.func41 rfl rfl (fun _=>rfl) rfl fun S0=>?_;unfold yc qot;by_cases hl:s.length=8
 ·rw [if_pos hl]
  apply qf [];repeat' (first|apply And.intro|(intro h;try exact cDd)|exact cSd|apply qd []|refine exr ?_|refine qk ?_)
  refine j5 (X:=Nat×Nat) (fun (i,a)=>⟨[(0,.s s),(4,.a (Wn a)),(10,.i i)],[],0⟩) (fun (i,a)=>i≤8∧a<16 ^ i∧qd5 (s.drop i) a=qd5 s 0) (fun (i,a)=>8 - i) (0,0) ⟨by omega,by simp,by simp⟩ ?_ ?_
  ·skip
   repeat' (first|apply And.intro|(intro h;try exact cDd)|exact cSd|apply qd []|refine exr ?_|refine qk ?_)
   all_goals first|rfl|(simp;done)
  ·rintro⟨i,a⟩ ⟨hi,ha,a8⟩
   by_cases fc:i<8
   ·have ha2:=q0w ha fc
    rw [List.drop_eq_getElem_cons (by omega),qd5] at a8;have hg:s.getD i 0=s[i]'(by omega):=by rw [List.getD_eq_getElem?_getD,List.getElem?_eq_getElem (by omega)];rfl
    have hc:=fun st=>q2t hexB (s.getD i 0).toNat st;have nj:((s.getD i 0).toNat:Int).toNat.toUInt8=s.getD i 0:=by simp
    rw [nj,zfx] at hc;rw [← hg] at a8
    cases hx:hexN (s.getD i 0) with
    |none=>
     rw [hx] at a8 hc;dsimp only at a8 hc;rw [← a8];apply qf [];repeat' (first|apply And.intro|(intro h;try exact cDd)|exact⟨Tryz.call74⟩|refine cpe hc ?_|exact cSd|apply qd []|refine exr ?_|refine qk ?_)
     all_goals first|rfl|(simp;done)
    |some n=>
     rw [hx] at a8 hc;dsimp only at a8 hc;have hn:=(xu hx).1;have hp:=q0x ha hn;apply qf [];repeat' (first|apply And.intro|(intro h;try exact cDd)|exact⟨Tryz.call74⟩|refine cpe hc ?_|(refine zjg (a:=a) rfl (fun _=>rfl) rfl (fun _=>rfl) ha2 ?_)|(refine w_or (a:=a) (n:=n) rfl (fun _=>rfl) rfl (fun _=>congrArg (fun z:Int=>AV.v (.int .u32 z)) (qky (by omega))) ha2 hn ?_)|(refine Exists.intro (i+1,16 * a+n) ⟨⟨by omega,hp,a8⟩,by simp only;omega,?_⟩)|exact cSd|apply qd []|refine exr ?_|refine qk ?_)
     all_goals first|rfl|(simp;done)
   ·have fc:i=8:=by omega
    subst fc;rw [List.drop_eq_nil_of_le (by omega),qd5] at a8;rw [← a8]
    have h32:(BitVec.ofNat 32 a).toNat=a:=by
     rw [BitVec.toNat_ofNat,Nat.mod_eq_of_lt];have:(16:Nat) ^ 8=2 ^ 32:=by decide
     omega
    apply qf [];repeat' (first|apply And.intro|(intro h;try exact cDd)|exact cSd|apply qd []|refine exr ?_|refine qk ?_)
    all_goals first|rfl|(simp [h32];done)
 ·rw [if_neg hl]
  apply qf [];repeat' (first|apply And.intro|(intro h;try exact cDd)|exact cSd|apply qd []|refine exr ?_|refine qk ?_)
theorem qwr (s:qc) (st:List AObj):qo E 43 [Sv s] st fun r st'=>r=qot (yc s)∧st'=st:=by
 refine zw [.s s] (qtk _) Tryz.func43 rfl rfl (fun _=>rfl) rfl fun S0=>?_;unfold yc qot;by_cases hl:s.length=8
 ·rw [if_pos hl]
  apply qf [];repeat' (first|apply And.intro|(intro h;try exact cDd)|exact cSd|apply qd []|refine exr ?_|refine qk ?_)
  refine j5 (X:=Nat×Nat) (fun (i,a)=>⟨[(0,.s s),(4,.a (Wn a)),(5,.i i)],[],0⟩) (fun (i,a)=>i≤8∧a<16 ^ i∧qd5 (s.drop i) a=qd5 s 0) (fun (i,a)=>8 - i) (0,0) ⟨by omega,by simp,by simp⟩ ?_ ?_
  ·skip
   repeat' (first|apply And.intro|(intro h;try exact cDd)|exact cSd|apply qd []|refine exr ?_|refine qk ?_)
   all_goals first|rfl|(simp;done)
  ·rintro⟨i,a⟩ ⟨hi,ha,a8⟩
   by_cases fc:i<8
   ·have ha2:=q0w ha fc
    rw [List.drop_eq_getElem_cons (by omega),qd5] at a8;have hg:s.getD i 0=s[i]'(by omega):=by rw [List.getD_eq_getElem?_getD,List.getElem?_eq_getElem (by omega)];rfl
    rw [← hg] at a8;obtain⟨c,hcg⟩:∃ c,c=s.getD i 0:=⟨_,rfl⟩;rw [← hcg] at a8;apply qf [];repeat' (first|apply And.intro|(intro h;try exact cDd)|exact cSd|apply qd []|refine exr ?_|refine qk ?_)
    refine j5 (X:=Nat) (fun k=>⟨[(0,.s s),(4,.a (Wn a)),(5,.i i),(6,.a (Wn (fndN c k))),(7,.i k)],[],0⟩) (fun k=>k≤16) (fun k=>16 - k) 0 (by omega) ?_ ?_
    ·skip
     repeat' (first|apply And.intro|(intro h;try exact cDd)|exact cSd|apply qd []|refine exr ?_|refine qk ?_)
     all_goals first|rfl|(unfold fndN;split <;> rfl)|(simp;done)
    ·rintro k hk
     by_cases i7:k<16
     ·have d8:=@zck c k
      have d5:=zif c k;have hat:=@zih c k i7;by_cases hq:hexN c=some k
      ·rw [if_pos hq] at d8
       have s6:=hat.2 hq;rw [hcg] at s6;apply qf [];repeat' (first|apply And.intro|(intro h;try exact cDd)|exact absurd s6 (by assumption)|(refine Exists.intro (k+1) ⟨by omega,by omega,?_⟩)|exact cSd|apply qd []|refine exr ?_|refine qk ?_)
       all_goals first|rfl|(rw [d8];exact congrArg (fun z:Int=>AV.v (.int .u32 z)) (qky (by omega)))|(simp;done)|(exfalso;simp_all;done)
      ·rw [if_neg hq] at d8
       have s6:¬ _:=fun h=>hq (hat.1 h);rw [hcg] at s6;apply qf [];repeat' (first|apply And.intro|(intro h;try exact cDd)|exact absurd (by assumption) s6|(refine Exists.intro (k+1) ⟨by omega,by omega,?_⟩)|exact cSd|apply qd []|refine exr ?_|refine qk ?_)
       all_goals first|rfl|(rw [d8];done)|(simp;done)|(exfalso;simp_all;done)
     ·have i7:k=16:=by omega
      subst i7
      cases hx:hexN c with
      |none=>
       rw [hx] at a8;dsimp only at a8;rw [← a8,zci hx];apply qf [];repeat' (first|apply And.intro|(intro h;try exact cDd)|exact cSd|apply qd []|refine exr ?_|refine qk ?_)
       all_goals first|rfl|(simp;done)
      |some n=>
       rw [hx] at a8;dsimp only at a8;have hn:=(xu hx).1;have hp:=q0x ha hn;have hw1:IntKind.u32.wrap (16 * (a:Int))=16 * (a:Int):=qky (n:=16 * a) (by omega);have hw2:IntKind.u32.wrap (16 * (a:Int)+(n:Int))=16 * (a:Int)+n:=qky (n:=16 * a+n) (by omega);rw [zcj hx];apply qf [];repeat' (first|apply And.intro|(intro h;try exact cDd)|(refine Exists.intro (i+1,16 * a+n) ⟨⟨by omega,hp,a8⟩,by simp only;omega,?_⟩)|exact cSd|apply qd []|refine exr ?_|refine qk ?_)
       all_goals first|rfl|(simp [hw1,hw2];done)
   ·have fc:i=8:=by omega
    subst fc;rw [List.drop_eq_nil_of_le (by omega),qd5] at a8;rw [← a8]
    have h32:(BitVec.ofNat 32 a).toNat=a:=by
     rw [BitVec.toNat_ofNat,Nat.mod_eq_of_lt];have:(16:Nat) ^ 8=2 ^ 32:=by decide
     omega
    apply qf [];repeat' (first|apply And.intro|(intro h;try exact cDd)|exact cSd|apply qd []|refine exr ?_|refine qk ?_)
    all_goals first|rfl|(simp [h32];done)
 ·rw [if_neg hl]
  apply qf [];repeat' (first|apply And.intro|(intro h;try exact cDd)|exact cSd|apply qd []|refine exr ?_|refine qk ?_)
end Go.Proofs.YtapblfabkbdgcaaGreatDoor
namespace Go.Pl
open Go Go.Proofs Go.Proofs.YtapblfabkbdgcaaGreatDoor
theorem q8v {t:qc} {b:List qp} (h:decF t=some b):qax b:=by
 obtain⟨h1,h2,h3⟩:=qd9 h;exact⟨(zcl h).1.B,by have:=(qbt h1).2.1;omega,fun x hx=>by have:=(qeq ((qbt h1).2.2 x hx)).1;omega⟩
theorem qo8 {t:qc} {b:List qp} (h:qah t=some b):qax b:=by
 unfold qah at h;split at h
 ·cases h
  exact⟨by simp,by simp,by simp⟩
 ·exact q8v h
theorem q37 {b:List qp} (hb:qax b) (h:eErr b = .no):(encF b).length≤42000000:=by
 have h1:=qh5 b hb.ed (qbt h).2.2;have:=hb.len;omega
theorem qt2 {text:qc} {R:List (List Fld)} (hR:∀ r∈R,zv r = .no) (hl:R.length<1000000):qax (qcr text (ofF (itsE text)) R).2.b:=by
 have h0:qax pat0.b:=⟨by simp [pat0],by simp [pat0],by simp [pat0]⟩;unfold qcr;split
 ·exact h0
 ·split
  ·exact q80 hR hl (by omega)
  ·exact h0
theorem q21 (old now:qc):qax (xl old now).2.b:=by
 have h0:qax pat0.b:=⟨by simp [pat0],by simp [pat0],by simp [pat0]⟩;unfold xl;split
 ·split
  ·rename_i h
   refine qt2 (q1g h) ?_;have h1:=(qff now).len;have h2:=qin (ofF (itsE now)).ents;unfold xy;rw [List.length_map];omega
  ·exact h0
 ·exact h0
theorem q0q {text:qc} {p:PatV} (h:qc2 text=some p):qax p.b:=by
 unfold qc2 at h;split at h
 ·simp at h
 ·split at h
  ·cases hb:qah (text.drop 25) with
   |none=>rw [hb] at h;simp at h
   |some b=>
    rw [hb] at h;simp only [Option.map_some,Option.some.injEq] at h;subst h;exact qo8 hb
  ·simp at h
theorem zjs (text:qc):wE (ofF (itsE text)).ents≤2 * text.length:=by
 have h:=q0h (itsE text) ⟨[],1,0⟩;rw [show wE ([]:List EntV)=0 from rfl,Nat.zero_add] at h;have:=zik text;unfold ofF;omega
theorem qvr {text:qc} {b:List qp} (h:vb text = .no) (hb:qax b):(qap (vp (ofF (itsE text)) b).2).length<100000000:=by
 have h1:=zjs text;have h2:=zhl (zb5 (q0j h) b);have h3:=(qj9 h).2.1
 have h4:wE (vp (ofF (itsE text)) b).2.ents≤42120000:=by
  unfold vp;split
  ·simp only
   omega
  ·by_cases he:eErr b = .no
   ·have:=zjn (ofF (itsE text)) b
    have:=q37 hb he;simp only;omega
   ·unfold doF
    rw [if_neg he];simp only;omega
 omega
end Go.Pl
namespace Go.Proofs.YtapblfabkbdgcaaGreatDoor
open Go Go.Av Go.RowKit Go.Proofs Go.Pl
@[reducible] def patA (p : PatV) : AV := .ag [Wv p.fr, Wv p.to', ku p.b]
theorem qgr (p:PatV):Pure (patA p):=qav fun y hy=>by
 simp only [AV.cells,List.mem_cons,List.not_mem_nil,or_false] at hy;rcases hy with rfl|rfl|rfl
 ·exact q8 _
 ·exact q8 _
 ·exact qbh _
theorem qqp (p:PatV) (st:List AObj) (hb:qax p.b):qo E 16 [patA p] st fun r st'=>r = .tu [Sv (qdx p).2,errA (qdx p).1]∧st'=st:=by
 obtain⟨f,t,b⟩:=p;refine zw [.a (.ag [Wv f,Wv t,ku b])] (j9 (q8 _) (vd _)) Tryz.func16 rfl rfl (fun _=>rfl) rfl fun S0=>?_;dsimp only at hb ⊢;have hf:=fun st=>qvw f st;have ht:=fun st=>qvw t st;have lf:=qh8 f;have lt:=qh8 t;unfold qdx qf8 wz;dsimp only;generalize vc f 8=ff at *;generalize vc t 8=tt at *
 cases b with
 |nil=>
  rw [if_pos rfl];apply qf [];repeat' (first|apply And.intro|(intro h;try exact cDd)|exact⟨Tryz.call34⟩|refine cpe hf ?_|exact⟨Tryz.call34⟩|refine cpe ht ?_|exact cSd|apply qd []|refine exr ?_|refine qk ?_)
  all_goals first|rfl|(simp [errA];done)
 |cons x r=>
  rw [if_neg (by simp)];have ct:=q37 hb;have h0:=fun h st=>qvu (x::r) st hb.ed h;have h1:=fun e he hc st=>qm5 (x::r) st e hb.ed (by have:=hb.len;omega) he hc;have hcd:=qi5 (x::r);have hlb:0<((x::r).map z6).length:=by simp
  have hlc:=hb.len;have i6:((x::r).map z6).length=(x::r).length:=by simp
  by_cases h:eErr (x::r) = .no
  ·rw [if_pos h]
   replace ct:=ct h;replace h0:=h0 h;generalize encF (x::r)=body at *;generalize x::r=b at *;apply qf [];repeat' (first|apply And.intro|(intro h;try exact cDd)|exact⟨Tryz.call34⟩|refine cpe hf ?_|exact⟨Tryz.call34⟩|refine cpe ht ?_|exact⟨Tryz.call35⟩|refine cpe h0 ?_|exact cSd|apply qd []|refine exr ?_|refine qk ?_)
   all_goals first|rfl|(simp [errA];done)
  ·rw [if_neg h]
   replace h1:=h1 _ rfl fun e=>h (hcd.1 e);generalize eErr (x::r)=e at *;generalize x::r=b at *
   cases e with
   |no=>exact absurd rfl h
   |num n=>
    apply qf []
    repeat' (first|apply And.intro|(intro h;try exact cDd)|exact⟨Tryz.call34⟩|refine cpe hf ?_|exact⟨Tryz.call34⟩|refine cpe ht ?_|exact⟨Tryz.call35⟩|refine cpe h1 ?_|exact cSd|apply qd []|refine exr ?_|refine qk ?_)
   |at' a n=>
    apply qf [];repeat' (first|apply And.intro|(intro h;try exact cDd)|exact⟨Tryz.call34⟩|refine cpe hf ?_|exact⟨Tryz.call34⟩|refine cpe ht ?_|exact⟨Tryz.call35⟩|refine cpe h1 ?_|exact cSd|apply qd []|refine exr ?_|refine qk ?_)
theorem zde (t:qc) (st:List AObj) (hl:t.length<1000000):qo E 42 [Sv t] st fun r st'=>r=decA (qah t)∧st'=st:=by
 refine zw [.s t] (qvk _) Tryz.func42 rfl rfl (fun _=>rfl) rfl fun S0=>?_;have hd:=fun st=>zb1 t st hl;unfold qah;by_cases h0:t=[]
 ·rw [if_pos h0]
  apply qf [];repeat' (first|apply And.intro|(intro h;try exact cDd)|exact absurd h0 (by assumption)|exact cSd|apply qd []|refine exr ?_|refine qk ?_)
 ·rw [if_neg h0]
  generalize decF t=q at *
  cases q
  all_goals
   apply qf [];repeat' (first|apply And.intro|(intro h;try exact cDd)|exact⟨Tryz.call75⟩|refine cpe hd ?_|exact absurd (by assumption) h0|exact cSd|apply qd []|refine exr ?_|refine qk ?_)
def q6w:Option PatV→AV
 |none=>.tu [patA pat0,errA (.num 2)]
 |some p=>.tu [patA p,errA .no]
theorem q6x (x:Option PatV):Pure (q6w x):=by
 cases x
 ·exact j9 (qgr _) (vd _)
 ·exact j9 (qgr _) (vd _)
set_option maxHeartbeats 2000000 in
theorem zdf (text:qc) (st:List AObj) (hl:text.length<1000000):qo E 18 [Sv text] st fun r st'=>r=q6w (qjl text)∧st'=st:=by
 refine zw [.s text] (q6x _) Tryz.func18 rfl rfl (fun _=>rfl) rfl fun S0=>?_;have hc:=fun st=>qko text 10 st (by omega);have l1:=vk 10 text;have l2:=vo 10 text;have htp:=fun st=>qn1 (upto 10 text) wz st;have l3:(Lib.trimPrefix (upto 10 text) wz).length≤(upto 10 text).length:=qml _ _;have nc:=fun st=>qko (Lib.trimPrefix (upto 10 text) wz) 32 st (by omega);have l4:=vk 32 (Lib.trimPrefix (upto 10 text) wz);have l5:=vo 32 (Lib.trimPrefix (upto 10 text) wz);have gm:=fun st=>q4z (upto 32 (Lib.trimPrefix (upto 10 text) wz)) st;have pb:=fun st=>q4z (past 32 (Lib.trimPrefix (upto 10 text) wz)) st;have hb:=fun st=>zde (past 10 text) st (by omega);have cd:=@qo8 (past 10 text);unfold qjl;generalize qah (past 10 text)=q at *
 cases q with
 |none=>
  have hp:=fun st=>qqp ⟨(yc (upto 32 (Lib.trimPrefix (upto 10 text) wz))).getD 0,(yc (past 32 (Lib.trimPrefix (upto 10 text) wz))).getD 0,[]⟩ st ⟨by simp,by simp,by simp⟩;dsimp only at hp ⊢;generalize yc (upto 32 (Lib.trimPrefix (upto 10 text) wz))=t1 at *;generalize yc (past 32 (Lib.trimPrefix (upto 10 text) wz))=t2 at *;generalize qdx ⟨t1.getD 0,t2.getD 0,[]⟩=pr at *;obtain⟨e,s⟩:=pr;dsimp only at hp
  cases e
  all_goals
   apply qf []
   repeat' (first|apply And.intro|(intro h;try exact cDd)|exact⟨Tryz.call39⟩|refine cpe hc ?_|exact⟨Tryz.call40⟩|refine cpe htp ?_|exact⟨Tryz.call39⟩|refine cpe nc ?_|exact⟨Tryz.call41⟩|refine cpe gm ?_|exact⟨Tryz.call41⟩|refine cpe pb ?_|exact⟨Tryz.call42⟩|refine cpe hb ?_|exact⟨Tryz.call16⟩|refine cpe hp ?_|exact cSd|apply qd []|refine exr ?_|refine qk ?_)
 |some b=>
  have hp:=fun st=>qqp ⟨(yc (upto 32 (Lib.trimPrefix (upto 10 text) wz))).getD 0,(yc (past 32 (Lib.trimPrefix (upto 10 text) wz))).getD 0,b⟩ st (cd rfl);dsimp only at hp ⊢;generalize yc (upto 32 (Lib.trimPrefix (upto 10 text) wz))=t1 at *;generalize yc (past 32 (Lib.trimPrefix (upto 10 text) wz))=t2 at *;generalize qdx ⟨t1.getD 0,t2.getD 0,b⟩=pr at *;obtain⟨e,s⟩:=pr;dsimp only at hp;by_cases hs:s=text
  ·subst hs
   cases e
   all_goals
    first|rw [if_pos rfl]|rw [if_neg (by simp)]
    apply qf [];repeat' (first|apply And.intro|(intro h;try exact cDd)|exact⟨Tryz.call39⟩|refine cpe hc ?_|exact⟨Tryz.call40⟩|refine cpe htp ?_|exact⟨Tryz.call39⟩|refine cpe nc ?_|exact⟨Tryz.call41⟩|refine cpe gm ?_|exact⟨Tryz.call41⟩|refine cpe pb ?_|exact⟨Tryz.call42⟩|refine cpe hb ?_|exact⟨Tryz.call16⟩|refine cpe hp ?_|exact cSd|apply qd []|refine exr ?_|refine qk ?_)
    all_goals first|rfl|(simp at *;done)
  ·rw [if_neg (by simp [hs])]
   cases e
   all_goals
    apply qf [];repeat' (first|apply And.intro|(intro h;try exact cDd)|exact⟨Tryz.call39⟩|refine cpe hc ?_|exact⟨Tryz.call40⟩|refine cpe htp ?_|exact⟨Tryz.call39⟩|refine cpe nc ?_|exact⟨Tryz.call41⟩|refine cpe gm ?_|exact⟨Tryz.call41⟩|refine cpe pb ?_|exact⟨Tryz.call42⟩|refine cpe hb ?_|exact⟨Tryz.call16⟩|refine cpe hp ?_|exact absurd hs (by assumption)|exact absurd (by assumption) hs|exact absurd (by assumption) hs|exact cSd|apply qd []|refine exr ?_|refine qk ?_)
structure qkd (l:q9):Prop where
 lb:LB 300040 l
 li:LI l
 lm:LM l
theorem zgo (text:qc):qkd (ofF (itsE text)):=⟨qoe (qff text) (by omega) (by omega),qsu text,q9r _⟩
theorem qvq (text:qc) (b:List qp):qkd (vp (ofF (itsE text)) b).2:=by
 unfold vp;split
 ·exact zgo text
 ·exact⟨zh5 (qff text) (by omega) b,zh6 (qsu text) b,zh7 (q9r _) (qff text) (by omega) b⟩
theorem qkd.its {l:q9} (h:qkd l):ItsB (jc l):=zf5 h.lb h.li
theorem qkd.txt {l:q9} (h:qkd l):(qap l).length≤1000000000000:=zd9 h.lb h.li
theorem q4o (text:qc) (b:List qp) (st:List AObj) (hb:qax b):qo E 27 [vt (ofF (itsE text)),ku b] st fun r st'=>r=qif (vp (ofF (itsE text)) b).1 (vp (ofF (itsE text)) b).2∧st'=st:=by
 have hl:=hb.len;have i6:(b.map z6).length=b.length:=by simp
 have hd:=fun st=>zjo 300000 (ofF (itsE text)) b st (qff text) (by omega) hb.ed (by omega);generalize ofF (itsE text)=l at *;refine zw [.a (vt l),.a (ku b)] (qpo _ _) Tryz.func27 rfl rfl (fun _=>rfl) rfl fun S0=>?_;unfold vp;unfold doA at hd;by_cases h:b=[]
 ·subst h
  rw [if_pos rfl];apply qf [];repeat' (first|apply And.intro|(intro h;try exact cDd)|exact cSd|apply qd []|refine exr ?_|refine qk ?_)
 ·have h0:0<b.length:=List.length_pos_iff.2 h
  rw [if_neg h];generalize doF l b=q at *;obtain⟨e,l2,ids⟩:=q
  cases e
  all_goals
   dsimp only at hd ⊢;apply qf [];repeat' (first|apply And.intro|(intro h;try exact cDd)|exact⟨Tryz.call51⟩|refine cpe hd ?_|exact cSd|apply qd []|refine exr ?_|refine qk ?_)
def qon (r:ErrV×PatV):AV:=.tu [patA r.2,errA r.1]
theorem qs0 (r:ErrV×PatV):Pure (qon r):=j9 (qgr _) (vd _)
theorem q60 (text:qc) (R:List (List Fld)) (st:List AObj) (hp:vb text = .no)
  (hE:∀ st,qo E 80 [vt (ofF (itsE text)),xm R] st fun r st'=>r=qhu (wo (ofF (itsE text)) R)∧st'=st) (cd:(wo (ofF (itsE text)) R).length≤40→qax (wo (ofF (itsE text)) R)) :
  qo E 45 [Sv text,vt (ofF (itsE text)),xm R] st fun r st'=>r=qon (qcr text (ofF (itsE text)) R)∧st'=st:=by
 have hok:=qvq text (wo (ofF (itsE text)) R);have htx:=fun h=>@qvr text (wo (ofF (itsE text)) R) hp h;have hl:=(qj9 hp).2.1;have hd:=fun h st=>q4o text (wo (ofF (itsE text)) R) st h;have hs:=fun st=>qtj text st (by omega);have ht:=fun st=>q4h (vp (ofF (itsE text)) (wo (ofF (itsE text)) R)).2 st hok.its hok.txt;unfold qcr;unfold qhu at hE;clear hok;generalize ofF (itsE text)=l at *;generalize wo l R=b at *;refine zw [.s text,.a (vt l),.a (xm R)] (qs0 _) Tryz.func45 rfl rfl (fun _=>rfl) rfl fun S0=>?_;unfold qon;by_cases h:40<b.length
 ·rw [if_pos h] at hE ⊢
  apply qf [];repeat' (first|apply And.intro|(intro h;try exact cDd)|exact⟨Tryz.call80⟩|refine cpe hE ?_|exact cSd|apply qd []|refine exr ?_|refine qk ?_)
 ·rw [if_neg h] at hE ⊢
  replace cd:=cd (by omega);replace hd:=hd cd;replace htx:=htx cd;unfold qif at hd;have h2:=fun st=>qtj (qap (vp l b).2) st (by omega);generalize vp l b=q at *;obtain⟨e,l2⟩:=q;dsimp only at *;generalize qap l2=s2 at *
  cases e with
  |no=>
   rw [if_pos rfl];apply qf []
   repeat' (first|apply And.intro|(intro h;try exact cDd)|exact⟨Tryz.call80⟩|refine cpe hE ?_|exact⟨Tryz.call27⟩|refine cpe hd ?_|exact⟨Tryz.call26⟩|refine cpe hs ?_|exact⟨Tryz.call28⟩|refine cpe ht ?_|exact⟨Tryz.call26⟩|refine cpe h2 ?_|exact cSd|apply qd []|refine exr ?_|refine qk ?_)
  |num n=>
   rw [if_neg (by simp)];apply qf []
   repeat' (first|apply And.intro|(intro h;try exact cDd)|exact⟨Tryz.call80⟩|refine cpe hE ?_|exact⟨Tryz.call27⟩|refine cpe hd ?_|exact cSd|apply qd []|refine exr ?_|refine qk ?_)
  |at' a n=>
   rw [if_neg (by simp)];apply qf [];repeat' (first|apply And.intro|(intro h;try exact cDd)|exact⟨Tryz.call80⟩|refine cpe hE ?_|exact⟨Tryz.call27⟩|refine cpe hd ?_|exact cSd|apply qd []|refine exr ?_|refine qk ?_)
theorem zgy (old now:qc) (st:List AObj) (h1:old.length<1000000) (h2:now.length<1000000):qo E 21 [Sv old,Sv now] st fun r st'=>r=qon (xl old now)∧st'=st:=by
 refine zw [.s old,.s now] (qs0 _) Tryz.func21 rfl rfl (fun _=>rfl) rfl fun S0=>?_;have ha:=fun st=>qqg old st h1;have hb:=fun st=>qqg now st h2;have hr:=fun st=>q34 (ofF (itsE now)) st (by have:=(qff now).len;omega) (fun e he=>by have:=(qsu now e he).2;omega)
 have dk:(xy (ofF (itsE now))).length<1000000:=by
  have h1:=(qff now).len;have h2:=qin (ofF (itsE now)).ents;unfold xy;rw [List.length_map];omega
 have pn:=fun hp cd st=>q60 old (xy (ofF (itsE now))) st hp (fun st=>zb3 old (xy (ofF (itsE now))) st cd dk) (q80 cd dk);have hgn:=q1g (text:=now);unfold xl;unfold qif at ha hb;generalize ofF (itsE now)=m at *;generalize xy m=R at *
 cases he:vb old with
 |num n=>
  rw [he] at ha;rw [if_neg (by simp)];apply qf []
  repeat' (first|apply And.intro|(intro h;try exact cDd)|exact⟨Tryz.call25⟩|refine cpe ha ?_|exact cSd|apply qd []|refine exr ?_|refine qk ?_)
 |at' a n=>
  rw [he] at ha;rw [if_neg (by simp)];apply qf []
  repeat' (first|apply And.intro|(intro h;try exact cDd)|exact⟨Tryz.call25⟩|refine cpe ha ?_|exact cSd|apply qd []|refine exr ?_|refine qk ?_)
 |no=>
  replace pn:=pn he;rw [he] at ha;rw [if_pos rfl]
  cases he2:vb now with
  |num n=>
   rw [he2] at hb;rw [if_neg (by simp)];apply qf []
   repeat' (first|apply And.intro|(intro h;try exact cDd)|exact⟨Tryz.call25⟩|refine cpe ha ?_|exact⟨Tryz.call25⟩|refine cpe hb ?_|exact cSd|apply qd []|refine exr ?_|refine qk ?_)
  |at' a n=>
   rw [he2] at hb;rw [if_neg (by simp)];apply qf []
   repeat' (first|apply And.intro|(intro h;try exact cDd)|exact⟨Tryz.call25⟩|refine cpe ha ?_|exact⟨Tryz.call25⟩|refine cpe hb ?_|exact cSd|apply qd []|refine exr ?_|refine qk ?_)
  |no=>
   replace pn:=pn (hgn he2);rw [he2] at hb;rw [if_pos rfl];dsimp only at ha hb;generalize ofF (itsE old)=l at *;generalize qcr old l R=q at *;obtain⟨e2,p2⟩:=q;unfold qon at pn ⊢;dsimp only at pn ⊢
   cases e2
   all_goals
    apply qf [];repeat' (first|apply And.intro|(intro h;try exact cDd)|exact⟨Tryz.call25⟩|refine cpe ha ?_|exact⟨Tryz.call25⟩|refine cpe hb ?_|exact⟨Tryz.call46⟩|refine cpe hr ?_|exact⟨Tryz.call45⟩|refine cpe pn ?_|exact cSd|apply qd []|refine exr ?_|refine qk ?_)
theorem zda (text:qc) (p:PatV) (st:List AObj) (hl:text.length<1000000) (hb:qax p.b):qo E 9 [Sv text,patA p] st fun r st'=>r = .tu [Sv (qh3 text p).2,errA (qh3 text p).1]∧st'=st:=by
 obtain⟨f,t,b⟩:=p;refine zw [.s text,.a (.ag [Wv f,Wv t,ku b])] (j9 (q8 _) (vd _)) Tryz.func9 rfl rfl (fun _=>rfl) rfl fun S0=>?_;dsimp only at hb ⊢;have ha:=fun st=>qqg text st hl;have hs:=fun st=>qtj text st (by omega);have hok:=qvq text b;have htx:=fun h=>@qvr text b h hb;have hd:=fun st=>q4o text b st hb;have ht:=fun st=>q4h (vp (ofF (itsE text)) b).2 st hok.its hok.txt;unfold qh3;dsimp only;unfold qif at ha;clear hok
 cases he:vb text with
 |num n=>
  rw [he] at ha;rw [if_neg (by simp)];apply qf []
  repeat' (first|apply And.intro|(intro h;try exact cDd)|exact⟨Tryz.call25⟩|refine cpe ha ?_|exact cSd|apply qd []|refine exr ?_|refine qk ?_)
 |at' a n=>
  rw [he] at ha;rw [if_neg (by simp)];apply qf []
  repeat' (first|apply And.intro|(intro h;try exact cDd)|exact⟨Tryz.call25⟩|refine cpe ha ?_|exact cSd|apply qd []|refine exr ?_|refine qk ?_)
 |no=>
  replace htx:=htx he;rw [he] at ha;rw [if_pos rfl];dsimp only at ha;generalize ofF (itsE text)=l at *;unfold qif at hd;have h2:=fun st=>qtj (qap (vp l b).2) st (by omega);generalize vp l b=q at *;obtain⟨e,l2⟩:=q;dsimp only at *;generalize qap l2=s2 at *;generalize addP 0 text=x at *;generalize addP 0 s2=y at *;have w1:(x.toNat:Int)=f.toNat↔x=f:=q7p x f;have w2:(y.toNat:Int)=t.toNat↔y=t:=q7p y t;by_cases hx:x=f
  ·rw [if_pos hx]
   replace w1:=w1.2 hx
   cases e with
   |no=>
    rw [if_pos rfl];by_cases hy:y=t
    ·rw [if_pos hy]
     replace w2:=w2.2 hy;apply qf [];repeat' (first|apply And.intro|(intro h;try exact cDd)|exact⟨Tryz.call25⟩|refine cpe ha ?_|exact⟨Tryz.call26⟩|refine cpe hs ?_|exact⟨Tryz.call27⟩|refine cpe hd ?_|exact⟨Tryz.call28⟩|refine cpe ht ?_|exact⟨Tryz.call26⟩|refine cpe h2 ?_|exact absurd w1 (by assumption)|exact absurd w2 (by assumption)|exact cSd|apply qd []|refine exr ?_|refine qk ?_)
    ·rw [if_neg hy]
     replace w2:=fun h=>hy (w2.1 h);apply qf []
     repeat' (first|apply And.intro|(intro h;try exact cDd)|exact⟨Tryz.call25⟩|refine cpe ha ?_|exact⟨Tryz.call26⟩|refine cpe hs ?_|exact⟨Tryz.call27⟩|refine cpe hd ?_|exact⟨Tryz.call28⟩|refine cpe ht ?_|exact⟨Tryz.call26⟩|refine cpe h2 ?_|exact absurd w1 (by assumption)|exact absurd w2 (by assumption)|exact absurd (by assumption) w2|exact cSd|apply qd []|refine exr ?_|refine qk ?_)
   |num n=>
    rw [if_neg (by simp)];apply qf []
    repeat' (first|apply And.intro|(intro h;try exact cDd)|exact⟨Tryz.call25⟩|refine cpe ha ?_|exact⟨Tryz.call26⟩|refine cpe hs ?_|exact⟨Tryz.call27⟩|refine cpe hd ?_|exact absurd w1 (by assumption)|exact cSd|apply qd []|refine exr ?_|refine qk ?_)
   |at' a n=>
    rw [if_neg (by simp)];apply qf [];repeat' (first|apply And.intro|(intro h;try exact cDd)|exact⟨Tryz.call25⟩|refine cpe ha ?_|exact⟨Tryz.call26⟩|refine cpe hs ?_|exact⟨Tryz.call27⟩|refine cpe hd ?_|exact absurd w1 (by assumption)|exact cSd|apply qd []|refine exr ?_|refine qk ?_)
  ·rw [if_neg hx]
   replace w1:=fun h=>hx (w1.1 h);apply qf [];repeat' (first|apply And.intro|(intro h;try exact cDd)|exact⟨Tryz.call25⟩|refine cpe ha ?_|exact⟨Tryz.call26⟩|refine cpe hs ?_|exact absurd w1 (by assumption)|exact absurd (by assumption) w1|exact cSd|apply qd []|refine exr ?_|refine qk ?_)
def q6y:Option PatV→AV
 |none=>.tu [patA pat0,Bv false]
 |some p=>.tu [patA p,Bv true]
theorem q6z (x:Option PatV):Pure (q6y x):=by
 cases x
 ·exact j9 (qgr _) (q8 _)
 ·exact j9 (qgr _) (q8 _)
set_option maxHeartbeats 4000000 in
theorem q1b (text:qc) (st:List AObj) (hl:text.length<1000000):qo E 19 [Sv text] st fun r st'=>r=q6y (qc2 text)∧st'=st:=by
 refine zw [.s text] (q6z _) Tryz.func19 rfl rfl (fun _=>rfl) rfl fun S0=>?_;unfold qc2;by_cases h1:text.length<25
 ·rw [if_pos (.inl h1)]
  apply qf [];repeat' (first|apply And.intro|(intro h;try exact cDd)|exact cSd|apply qd []|refine exr ?_|refine qk ?_)
 have gm:=fun st=>qwr ((text.take 15).drop 7) st;have pb:=fun st=>qwr ((text.take 24).drop 16) st;have hd:=fun st=>q3a (text.drop 25) st (by simp;omega);have e15:text[15]? = some (text.getD 15 0):=by rw [List.getD_eq_getElem?_getD,List.getElem?_eq_getElem (show 15<List.length text by omega)];rfl
 have e24:text[24]? = some (text.getD 24 0):=by rw [List.getD_eq_getElem?_getD,List.getElem?_eq_getElem (show 24<List.length text by omega)];rfl
 have q15:text[15]? = some 32↔((text.getD 15 0).toNat:Int)=32:=by rw [e15,Option.some.injEq,← UInt8.toNat_inj];constructor <;> intro h <;> simp at h ⊢ <;> omega
 have q24:text[24]? = some 10↔((text.getD 24 0).toNat:Int)=10:=by rw [e24,Option.some.injEq,← UInt8.toNat_inj];constructor <;> intro h <;> simp at h ⊢ <;> omega
 by_cases p2:text.take 7=wz
 case' neg=>
  rw [if_pos (.inr (.inl p2))];have g2:¬ (text.take 7).drop 0=[37,112,97,116,99,104,32]:=p2;have g3:=True.intro;have g4:=True.intro
 case' pos=>
  have g2:(text.take 7).drop 0=[37,112,97,116,99,104,32]:=p2;by_cases p3:text[15]? = some 32
  case' neg=>
   rw [if_pos (.inr (.inr (.inl p3)))];have g3:¬ ((text.getD 15 0).toNat:Int)=32:=fun h=>p3 (q15.2 h);have g4:=True.intro
  case' pos=>
   have g3:((text.getD 15 0).toNat:Int)=32:=q15.1 p3;by_cases p4:text[24]? = some 10
   case' neg=>
    rw [if_pos (.inr (.inr (.inr p4)))];have g4:¬ ((text.getD 24 0).toNat:Int)=10:=fun h=>p4 (q24.2 h)
   case' pos=>
    have g4:((text.getD 24 0).toNat:Int)=10:=q24.1 p4;rw [if_neg (by simp only [not_or,Decidable.not_not];exact⟨h1,p2,p3,p4⟩)];unfold qot at gm pb;generalize yc ((text.take 15).drop 7)=o1 at *;generalize yc ((text.take 24).drop 16)=o2 at *
    cases o1
    case' some=>
     cases o2
     case' some=>
      unfold qah;by_cases h25:text.length=25
      case' pos=>
       rw [if_pos (List.drop_eq_nil_of_le (by omega))]
      case' neg=>
       rw [if_neg fun h=>by have:=congrArg List.length h;simp at this;omega];unfold qbx at hd;generalize decF (text.drop 25)=o3 at *
       cases o3
 all_goals
  try dsimp only [Option.getD,Option.isSome] at *
  apply qf [];repeat' (first|apply And.intro|(intro h;try exact cDd)|exact⟨Tryz.call43⟩|refine cpe gm ?_|exact⟨Tryz.call43⟩|refine cpe pb ?_|exact⟨Tryz.call44⟩|refine cpe hd ?_|exact absurd g2 (by assumption)|exact absurd (by assumption) g2|exact absurd g3 (by assumption)|exact absurd (by assumption) g3|exact absurd g4 (by assumption)|exact absurd (by assumption) g4|exact cSd|apply qd []|refine exr ?_|refine qk ?_)
  all_goals first|rfl|(simp;done)|(exfalso;simp_all;done)
theorem q1k (p:PatV) (st:List AObj) (hl:p.b.length<1000000) (hf:∀ x∈p.b,x.fields.length<1000000):qo E 13 [patA p,patA p] st fun r st'=>r=Bv true∧st'=st:=by
 refine zw [.a (patA p),.a (patA p)] (q8 _) Tryz.func13 rfl rfl (fun _=>rfl) rfl fun S0=>?_;have ho:=fun st=>q2o p.b st hl hf;apply qf [];repeat' (first|apply And.intro|(intro h;try exact cDd)|exact⟨Tryz.call32⟩|refine cpe ho ?_|exact cSd|apply qd []|refine exr ?_|refine qk ?_)
 all_goals first|rfl|(exfalso;exact (by assumption:¬ _) rfl)|(simp at *;done)
def yx:qc:=[65,58,32,49,10]
theorem qx7:xl yx []=(.no,⟨addP 0 yx,addP 0 [],[⟨2,1,[]⟩]⟩):=by
 have p1:vb yx = .no:=by decide +kernel
 have p2:vb [] = .no:=by decide +kernel
 have s1:stzF (ofF (itsE yx)).ents=[(1,[([65],[49])])]:=by decide +kernel
 have r1:xy (ofF (itsE []))=[]:=by decide +kernel
 have w1:wayF [([([65],[49])]:List Fld)] []=[3]:=by simp [wayF,wayB,xe,qgh]
 have d1:wo (ofF (itsE yx)) []=[⟨2,1,[]⟩]:=by
  unfold wo;rw [s1,show ([((1:Int),[(([65],[49]):Fld)])].map Prod.snd)=[[(([65],[49]):Fld)]] from rfl,w1];rfl
 have d2:(vp (ofF (itsE yx)) [⟨2,1,[]⟩]).1 = .no:=by decide +kernel
 have d3:qap (vp (ofF (itsE yx)) [⟨2,1,[]⟩]).2=[]:=by decide +kernel
 unfold xl;rw [if_pos p1,if_pos p2,r1];unfold qcr;rw [d1,if_neg (by simp),if_pos d2,d3]
theorem q7w (st:List AObj):qo E 6 [] st fun r st'=>r=Bv true∧st'=st:=by
 have hm:=fun st=>zgy yx [] st (by decide) (by decide);have q0:=qx7;have h1:(xl yx []).1 = .no:=by rw [q0]
 have h2:(xl yx []).2.b.map (fun e=>e.kind)=[2]:=by rw [q0];rfl
 have h3:(xl yx []).2.to'=addP 0 []:=by rw [q0]
 have h4:¬ (xl yx []).2.fr=(xl yx []).2.to':=by rw [q0];decide +kernel
 have h5:(qh3 yx (xl yx []).2).2=[]:=by rw [(qwb h1).2,q0];decide +kernel
 have h6:=(qwb h1).1;have cd:=q21 yx [];have ha:=fun st=>zda yx (xl yx []).2 st (by decide) cd;have hs:=fun st=>zdn [] st (by decide);rw [h5,h6] at ha;unfold qon at hm;rw [h1] at hm;clear h1 h5 h6 cd;generalize (xl yx []).2=p at *;obtain⟨f,t,b⟩:=p;dsimp only at *
 obtain⟨x,rfl,hx⟩:∃ x,b=[x]∧x.kind=2:=by
  cases b with
  |nil=>simp at h2
  |cons x r=>
   simp at h2;exact⟨x,by rw [h2.2],h2.1⟩
 subst h3;have w1:¬ ((f.toNat:Int)=(addP 0 []).toNat):=fun h=>h4 ((q7p f (addP 0 [])).1 h);generalize addP 0 []=t at *;obtain⟨k,i,fs⟩:=x;dsimp only at hx;subst hx;unfold yx at hm ha;refine zw [] (q8 _) Tryz.func6 rfl rfl (fun _=>rfl) rfl fun S0=>?_;apply qf [];repeat' (first|apply And.intro|(intro h;try exact cDd)|exact⟨Tryz.call21⟩|refine cpe hm ?_|exact⟨Tryz.call9⟩|refine cpe ha ?_|exact⟨Tryz.call22⟩|refine cpe hs ?_|exact absurd rfl (by assumption)|exact absurd (by assumption) w1|exact cSd|apply qd []|refine exr ?_|refine qk ?_)
 all_goals first|rfl|(simp;done)|(simp [w1];done)
set_option maxHeartbeats 4000000 in
theorem qxh (text:qc) (st:List AObj):qo E 5 [Sv text] st fun r st'=>r=Bv true∧st'=st:=by
 refine zw [.s text] (q8 _) Tryz.func5 rfl rfl (fun _=>rfl) rfl fun S0=>?_;have hal:=q7w;by_cases h4:4000<text.length
 ·apply qf []
  repeat' (first|apply And.intro|(intro h;try exact cDd)|exact⟨Tryz.call6⟩|refine cpe hal ?_|exact cSd|apply qd []|refine exr ?_|refine qk ?_)
 have hp:=fun st=>zdf text st (by omega);have hr:=fun st=>q1b text st (by omega);have cd:=@q0q text;have hpr:=@q26 text;rw [qs1] at hp;have hs0:=fun st=>q1k pat0 st (by decide) (by simp [pat0]);have his:=fun st=>zjq (.num 2) 2 st (by simp [okE]);unfold q6w at hp;unfold q6y at hr;generalize qc2 text=q at *
 cases q with
 |none=>
  dsimp only at *;apply qf [];repeat' (first|apply And.intro|(intro h;try exact cDd)|exact⟨Tryz.call6⟩|refine cpe hal ?_|exact⟨Tryz.call18⟩|refine cpe hp ?_|exact⟨Tryz.call19⟩|refine cpe hr ?_|exact⟨Tryz.call13⟩|refine cpe hs0 ?_|exact⟨Tryz.call20⟩|refine cpe his ?_|exact cSd|apply qd []|refine exr ?_|refine qk ?_)
  all_goals first|rfl|(simp [ErrV.code];done)
 |some p=>
  have rg:=cd rfl;have hs2:=rg.fl;have hlb:=rg.len;have hsa:=fun st=>q1k p st (by omega) hs2;have hpp:=fun st=>qqp p st rg;rw [hpr rfl] at hpp;dsimp only at *;clear hpr cd rg hs2;obtain⟨f,t,b⟩:=p;apply qf [];repeat' (first|apply And.intro|(intro h;try exact cDd)|exact⟨Tryz.call6⟩|refine cpe hal ?_|exact⟨Tryz.call18⟩|refine cpe hp ?_|exact⟨Tryz.call19⟩|refine cpe hr ?_|exact⟨Tryz.call13⟩|refine cpe hsa ?_|exact⟨Tryz.call16⟩|refine cpe hpp ?_|exact cSd|apply qd []|refine exr ?_|refine qk ?_)
  all_goals first|rfl|(simp;done)
end Go.Proofs.YtapblfabkbdgcaaGreatDoor
namespace Go.Proofs.YtapblfabkbdgcaaGreatDoor
open Go Go.Av Go.RowKit Go.WideShapes Go.ChangeShapes Go.Deep Go.Proofs Go.Pl
theorem qxg (text:qc) (st:List AObj):qo E 5 [Sv text] st fun r st'=>r=Bv true∧st'=st:=qxh text st
end Go.Proofs.YtapblfabkbdgcaaGreatDoor
