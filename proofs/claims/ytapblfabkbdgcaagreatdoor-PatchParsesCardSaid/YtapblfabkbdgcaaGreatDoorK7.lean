/- Contracts and plain facts that the closing text leans on (part 7). No condition of their own beyond those that each states. -/
import Derived.Test.YtapblfabkbdgcaaGreatDoorK6
import Derived.Laws.StructEq
import Derived.Lib.SliceRun
set_option maxRecDepth 100000
set_option linter.unusedVariables false
set_option linter.unusedSimpArgs false
namespace Go.Proofs.YtapblfabkbdgcaaGreatDoor
open Go Go.Av Go.RowKit Go.Proofs Go.Pl
def tryB (k:Int) (l:qc):Option Int:=if x4 k <+: l then (match Lib.atoiAll (l.drop (x4 k).length) with
 | .ok n=>some n
 | _=>none) else none
def begE (l:qc):Option (Int×Int):=match tryB 1 l with
 |some n=>some (1,n)
 |none=>match tryB 2 l with
  |some n=>some (2,n)
  |none=>match tryB 3 l with
   |some n=>some (3,n)
   |none=>none
def begA:Option (Int×Int)→AV
 |some (k,n)=>.tu [z6 ⟨k,n,[]⟩,Bv true]
 |none=>.tu [z6 ⟨0,0,[]⟩,Bv false]
theorem q8c (x:Option (Int×Int)):Pure (begA x):=by
 rcases x with _ | ⟨k,n⟩
 ·exact j9 (qav (qf5 _)) (q8 _)
 ·exact j9 (qav (qf5 _)) (q8 _)
theorem qw3 (k n:Int):Weak (.ag [Iv k,Iv n,zy]) (z6 ⟨k,n,[]⟩):=
 zhr rfl fun i x y hx hy=>by
  match i with
  | 0=>simp at hx hy;subst hx;subst hy;exact qbc _
  | 1=>simp at hx hy;subst hx;subst hy;exact qbc _
  | 2=>simp at hx hy;subst hx;subst hy;exact qfj 2
  |i+3=>simp at hx
theorem q53 (l m:qc) (st:List AObj) (h:m <+: l):qo E 155 [Sv l,Sv m] st fun r st'=>r = .tu [Sv (l.drop m.length),Bv true]∧st'=st:=by
 have:=qjx l m st;rw [qd6 h,(y6 l m).2 h] at this;exact this
theorem q54 (l m d:qc) (st:List AObj) (h:m <+: l) (hd:l.drop m.length=d):qo E 155 [Sv l,Sv m] st fun r st'=>r = .tu [Sv d,Bv true]∧st'=st:=by
 subst hd;exact q53 l m st h
theorem q52 (l m:qc) (st:List AObj) (h:¬ m <+: l):qo E 155 [Sv l,Sv m] st fun r st'=>r = .tu [Sv l,Bv false]∧st'=st:=by
 have:=qjx l m st
 have hf:Lib.hasPrefix l m=false:=by
  cases hb:Lib.hasPrefix l m with
  |false=>rfl
  |true=>exact absurd ((y6 l m).1 hb) h
 have ht:Lib.trimPrefix l m=l:=by
  unfold Lib.trimPrefix;rw [if_neg (by simp [hf])]
 rw [ht,hf] at this;exact this
theorem ze3 {l:qc} {k:Nat} {n:Int} (h1:1≤k) (h3:k≤3) (h:∀ j:Nat,1≤j→j<k→tryB j l=none) (hk:tryB k l=some n):begE l=some ((k:Int),n):=by
 have:k=1∨k=2∨k=3:=by omega
 rcases this with rfl|rfl|rfl
 ·have bg:tryB 1 l=some n:=hk
  simp [begE,bg]
 ·have e1:tryB 1 l=none:=h 1 (by omega) (by omega)
  have bg:tryB 2 l=some n:=hk;simp [begE,e1,bg]
 ·have e1:tryB 1 l=none:=h 1 (by omega) (by omega)
  have e2:tryB 2 l=none:=h 2 (by omega) (by omega);have bg:tryB 3 l=some n:=hk;simp [begE,e1,e2,bg]
theorem q8e {l:qc} (h:∀ j:Nat,1≤j→j<4→tryB j l=none):begE l=none:=by
 have e1:tryB 1 l=none:=h 1 (by omega) (by omega);have e2:tryB 2 l=none:=h 2 (by omega) (by omega);have e3:tryB 3 l=none:=h 3 (by omega) (by omega);simp [begE,e1,e2,e3]
theorem zbf {k:Nat} (h1:1≤k) (h3:k≤3):qbd (k:Int)≠[]∧([32]++qbd (k:Int))++[32]=x4 (k:Int)∧(qbd (k:Int)).length≤10:=by
 have:k=1∨k=2∨k=3:=by omega
 rcases this with rfl|rfl|rfl <;> decide
set_option maxHeartbeats 2000000 in
theorem ze5 (l:qc) (st:List AObj) (hl:l.length<1000000):qo E 113 [Sv l] st fun r st'=>r=begA (begE l)∧st'=st:=by
 refine ze (q8c _) (qr Tryz.func113 rfl (Nat.le_of_ble_eq_true rfl) ?_);repeat' (first|apply qm|apply qu|apply qg|apply qh|apply qi|(apply jp;exact rfl;exact rfl))
 refine ju (fun (k:Nat) s=>1≤k∧k≤4∧(∀ j:Nat,1≤j→j<k→tryB j l=none)∧StE [(0,Sv l),(2,.bx (st.length+0) 0 0),(4,Iv k)] st [.cells 0 55 [Iv 0,Iv 0,zy]] s) (fun k=>4 - k) 1 ⟨by omega,by omega,fun j h1 h2=>by omega,qci ⟨rfl,rfl,rfl,trivial⟩ rfl⟩ ?_;rintro k _ ⟨bg,hk4,lx,t,ext,rfl⟩;by_cases h4:k=4
 ·subst h4
  have hw:qbd ((4:Nat):Int)=[]:=by decide
  rw [q8e lx];repeat' (first|apply qm|apply qg|apply qh|apply ql|apply qi|(apply kr;(iterate 3 exact rfl))|(apply qe;exact rfl;apply cd_f;exact cRa)|(apply qfn;(iterate 11 exact rfl))|(apply xk;(iterate 3 exact rfl))|apply jg|apply q6|(apply qq;exact Tryz.call103;exact qtr _ _))
  refine qn rfl (wu (qo5 rfl rfl rfl rfl rfl rfl) (qeg (qw3 0 0) (qbc _))) ⟨rfl,yl _ _ _ _⟩
 ·obtain⟨hw,hm,hwl⟩:=zbf bg (by omega)
  by_cases hp:x4 (k:Int) <+: l
  ·have tj:([32]++qbd (k:Int))++[32] <+: l:=by rw [hm];exact hp
   obtain⟨d,hd0⟩:∃ d,d=l.drop (x4 (k:Int)).length:=⟨_,rfl⟩;have hd:l.drop ((([32]:qc)++qbd (k:Int))++[32]).length=d:=by rw [hm,hd0]
   have hdl:d.length<1000000:=by rw [hd0,List.length_drop];omega
   repeat' (first|apply qm|apply qu|apply qg|apply qh|apply ql|apply qi|(apply zz;exact rfl;exact rfl)|(apply kr;(iterate 3 exact rfl))|(apply qe;exact rfl;apply vj;exact cAo)|(apply vf;exact rfl;exact rfl;exact cOs)|apply qw|(apply qq;exact Tryz.call103;exact qtr _ _)|(apply qq;exact Tryz.call155;exact q54 _ _ _ _ tj hd))
   refine qms Tryz.call156 ((q77 d _ (by omega)).mono ?_);rintro _ _ ⟨rfl,n,x,rfl,hx⟩;rw [hd0] at hx;rcases x with _ | ⟨t',y⟩
   ·simp only at hx
    have pf:tryB (k:Int) l=some n:=by unfold tryB;rw [if_pos hp,hx]
    rw [ze3 bg (by omega) lx pf];repeat' (first|apply qm|apply qg|apply qh|apply ql|apply qi|(apply zz;exact rfl;exact rfl)|(apply zm;(iterate 4 exact rfl))|(apply qeb;exact cRa)|(apply qx;exact rfl;apply pk_t;exact cRa)|(apply qe;exact rfl;apply cd_t;exact cRa)|(apply qdz;exact rfl;exact rfl)|(apply qfn;(iterate 11 exact rfl))|(apply xk;(iterate 3 exact rfl))|apply q6)
    refine qn rfl (wu (qo5 rfl rfl rfl rfl rfl rfl) (qeg (qw3 k n) (qbc _))) ⟨rfl,yl _ _ _ _⟩
   ·simp only at hx
    have pf:tryB (k:Int) l=none:=by
     unfold tryB;rw [if_pos hp];split
     ·rename_i v hv;exact absurd hv (hx v)
     ·rfl
    repeat' (first|apply qm|apply qg|apply qh|apply ql|apply qi|(apply zz;exact rfl;exact rfl)|(apply zm;(iterate 4 exact rfl))|(apply qeb;exact cRa)|(apply qx;exact rfl;apply pk_t;exact cRa)|(apply qe;exact rfl;apply cd_f;exact cRa)|(apply zn;exact rfl;exact rfl;exact zb (by omega) (by omega))|(apply qaq;exact rfl;exact rfl)|apply qw)
    refine⟨k+1,⟨by omega,by omega,fun j h1 h2=>?_,y9 ⟨rfl,rfl,rfl,trivial⟩ rfl⟩,by omega⟩;by_cases hjk:j=k
    ·subst hjk;exact pf
    ·exact lx j h1 (by omega)
  ·have tj:¬ ([32]++qbd (k:Int))++[32] <+: l:=by rw [hm];exact hp
   have pf:tryB (k:Int) l=none:=by unfold tryB;rw [if_neg hp]
   repeat' (first|apply qm|apply qu|apply qg|apply qh|apply ql|apply qi|(apply zz;exact rfl;exact rfl)|(apply kr;(iterate 3 exact rfl))|(apply qe;exact rfl;apply vj;exact cAo)|(apply vf;exact rfl;exact rfl;exact cOs)|apply qw|(apply qq;exact Tryz.call103;exact qtr _ _)|(apply qq;exact Tryz.call155;exact q52 _ _ _ tj))
   refine qms Tryz.call156 ((q77 l _ (by omega)).mono ?_);rintro _ _ ⟨rfl,n,x,rfl,hx⟩;rcases x with _ | ⟨t',y⟩
   all_goals
    repeat' (first|apply qm|apply qg|apply qh|apply ql|apply qi|(apply zz;exact rfl;exact rfl)|(apply zm;(iterate 4 exact rfl))|(apply qer;exact cRa)|(apply qx;exact rfl;apply pk_f;exact cRa)|(apply qe;exact rfl;apply cd_f;exact cRa)|(apply zn;exact rfl;exact rfl;exact zb (by omega) (by omega))|apply qw)
    refine⟨k+1,⟨by omega,by omega,fun j h1 h2=>?_,y9 ⟨rfl,rfl,rfl,trivial⟩ rfl⟩,by omega⟩;by_cases hjk:j=k
    ·subst hjk;exact pf
    ·exact lx j h1 (by omega)
def y3 (its:List za):List (List Fld):=(its.filter fun x=>decide (x.kind=3)).map za.fields
@[reducible] def xm (ls : List (List Fld)) : AV := .sl 1 (ls.map zp) none
theorem qhn (ls:List (List Fld)):Pure (xm ls):=qch fun x hx=>by
 obtain⟨f,_,rfl⟩:=List.mem_map.1 hx;intro y hy;simp only [AV.cells,List.mem_cons,List.not_mem_nil,or_false] at hy;subst hy;exact qa6 _
theorem q28 (l:List za) (x:za) (h:x.kind=3):y3 (l++[x])=y3 l++[x.fields]:=by simp [y3,h]
theorem q29 (l:List za) (x:za) (h:¬ x.kind=3):y3 (l++[x])=y3 l:=by simp [y3,h]
theorem zhm {b t1:Nat} {st st':List AObj} {sz:Nat} {T:TypeId} {xs:List AV} {c c0:AV} {sz0:Nat} {xs0:List AV} (hf:Fr st st' t1) (cj:c0 = .sl sz0 xs0 (some t1)∨st.length≤t1) (h0:∀ t,c0≠.sl sz0 xs0 (some t)) (h:TipO b st sz T xs c):TipO b st' sz T xs c:=
 q40 (fun t m sz T ht=>hf.same t (fun e=>by
  subst e;rcases cj with cj|cj
  ·exact h0 _ cj
  ·have:=lt_of_getElem? ht;omega) (lt_of_getElem? ht)) h
theorem zeb {b t1:Nat} {st st':List AObj} {sz:Nat} {T:TypeId} {xs:List AV} {c:AV} {sz0:Nat} {xs0:List AV} {o v f l k:Nat} (hf:Fr st st' t1) (cj:AV.os o v f l k = .sl sz0 xs0 (some t1)∨st.length≤t1) (h:TipO b st sz T xs c):TipO b st' sz T xs c:=
 zhm hf cj (by simp) h
set_option maxHeartbeats 2000000 in
theorem zay (its:List za) (st:List AObj) (hl:its.length<1000000) (hf:∀ x∈its,x.fields.length<1000000):qo E 158 [w8 its] st fun r st'=>r=xm (y3 its)∧st'=st:=by
 refine ze (qhn _) (qr Tryz.func158 rfl (Nat.le_of_ble_eq_true rfl) ?_);have i6:(its.map vr).length=its.length:=by simp
 rw [List.append_nil];repeat' (first|apply qm|apply qu|apply qg|apply qh|apply ql|apply qi|(apply ja;(iterate 4 exact rfl)))
 refine qa0 its (fun pre s=>∃ c S,OutI st S∧TipO st.length S 1 53 ((y3 pre).map zp) c∧StA [(3,c),(6,w8 its),(7,Iv its.length),(8,Iv pre.length)] S [] s) ⟨_,st,⟨fun _ _=>rfl,Nat.le_refl _⟩,q1w ..,jd ⟨rfl,rfl,congrArg (fun n:Nat=>Iv (n:Int)) i6,rfl,trivial⟩⟩ ?_ ?_
 ·rintro _ ⟨c,S,hO,hT,t,rfl⟩
  repeat' (first|apply qm|apply qg|apply qh|apply ql|apply qi|(apply qt;(iterate 3 exact rfl))|(apply qe;exact rfl;apply wm;exact cAo)|apply jg|apply q6)
  exact qn rfl (wu (zh rfl) (qly hT)) ⟨rfl,hO.ext⟩
 ·rintro pre x rest _ hr ⟨c,S,hO,hT,t,rfl⟩
  have c8:its.length=pre.length+(rest.length+1):=by rw [hr];simp
  have c9:(its.map vr)[pre.length]? = some (vr x):=by rw [hr];simp
  have hxf:=hf x (by rw [hr];simp);have t6:(y3 pre).length≤pre.length:=by unfold y3;rw [List.length_map];exact List.length_filter_le _ _
  have hSl:=hO.len;have hO1:OutI st ((S++[AObj.cells 0 107 [Iv 0,Sv [],zy]]).set S.length (.cells 0 107 (vr x).cells)):=hO.pre.set hSl;have hT1:TipO st.length ((S++[AObj.cells 0 107 [Iv 0,Sv [],zy]]).set S.length (.cells 0 107 (vr x).cells)) 1 53 ((y3 pre).map zp) c:=qw1 (qq0 hT) (yw wh);have u7:((S++[AObj.cells 0 107 [Iv 0,Sv [],zy]]).set S.length (.cells 0 107 (vr x).cells))[S.length]? = some (.cells 0 107 (vr x).cells):=ke wh;by_cases h3:x.kind=3
  ·skip
   repeat' (first|(apply qb5 (st:=(S++[AObj.cells 0 107 [Iv 0,Sv [],zy]]).set S.length (.cells 0 107 (vr x).cells));(iterate 6 exact rfl))|(apply q71 19 rfl (qly g1);apply xc;(iterate 9 exact rfl))|apply qm|apply qu|apply qg|apply qh|apply ql|apply qi|(apply qt;(iterate 3 exact rfl))|(apply qe;exact rfl;apply vj;exact cAo)|(apply zn;exact rfl;exact rfl;exact zb (by omega) (by omega))|(apply zg;(iterate 3 exact rfl))|(apply jo;(iterate 3 exact rfl))|apply qw|(apply kf;exact rfl;exact u7;exact rfl;exact rfl)|(apply kf;exact rfl;exact qbk u7;exact rfl;exact rfl)|(apply qjt (st:=S);exact rfl;exact rfl)|(apply x9;exact rfl;exact rfl;(focus first|assumption|(repeat' (first|assumption|exact wh|exact jl rfl|apply ke|apply kq|omega|apply qbk)));(iterate 6 exact rfl))|(apply j8 (n:=pre.length);(iterate 5 exact rfl);exact c9)|(apply qh0 (b:=st.length) (xs:=[]) (ys:=x.fields.map fldA) (bytes:=32);(iterate 5 exact rfl);exact⟨⟨_,_,rfl,rfl,rfl,rfl,rfl⟩⟩;exact q41 _ _ _ _ _ _ _;(exact Nat.le_trans hO1.len qfu);(first|exact rfl|exact qb4 fun _=>rfl);((simp [maxLen];omega));((simp;omega));intro c1 S1 t1 g1 g2 g3 g4)|(apply qh0 (b:=st.length) (xs:=(y3 pre).map zp) (ys:=[zp x.fields]) (bytes:=24);(iterate 5 exact rfl);exact⟨⟨_,_,rfl,rfl,rfl,rfl,rfl⟩⟩;exact zeb g2 g4 (qq0 hT1);(exact (hO1.pre.fr g2 g3).len);(first|exact rfl|exact qb4 fun _=>rfl);((simp [maxLen];omega));((simp;omega));intro c2 S2 t2 k1 k2 k3 k4))
   exact⟨c2,S2,(hO1.pre.fr g2 g3).fr k2 k3,by rw [q28 _ _ h3,zc0];exact k1,jd ⟨rfl,rfl,rfl,qft pre x,trivial⟩⟩
  ·skip
   repeat' (first|apply qm|apply qu|apply qg|apply qh|apply ql|(apply qt;(iterate 3 exact rfl))|(apply qe;exact rfl;apply vj;exact cAo)|(apply qe;exact rfl;apply wm;exact cAo)|(apply zn;exact rfl;exact rfl;exact zb (by omega) (by omega))|(apply zg;(iterate 3 exact rfl))|(apply jo;(iterate 3 exact rfl))|apply qw|(apply kf;exact rfl;exact u7;exact rfl;exact rfl)|(apply qjt (st:=S);exact rfl;exact rfl)|(apply x9;exact rfl;exact rfl;(focus first|assumption|(repeat' (first|assumption|exact wh|exact jl rfl|apply ke|apply kq|omega|apply qbk)));(iterate 6 exact rfl))|(apply j8 (n:=pre.length);(iterate 5 exact rfl);exact c9))
   exact⟨c,_,hO1,by rw [q29 _ _ h3];exact hT1,jd ⟨rfl,rfl,rfl,qft pre x,trivial⟩⟩
end Go.Proofs.YtapblfabkbdgcaaGreatDoor
namespace Go.Pl
open Go Go.Proofs Go.Proofs.YtapblfabkbdgcaaGreatDoor
def GF (fs:List Fld):Prop:=fs.length≤40∧∀ f∈fs,jt f
structure PI (p:PSt):Prop where
 items:∀ x∈p.items,GF x.fields∧(x.kind=3↔x.fields≠[])
 fields:GF p.fields
 full:p.lines≠[]→p.full=false→p.fields.length<40
theorem qgf {ls:List qc} (h:(zq ls).2=0):jt (zq ls).1:=by
 unfold zq at h ⊢;split at h
 ·split at h
  ·simp at h
  ·rename_i h1 h2
   rw [if_pos h1,if_neg h2];exact⟨(qje.1 h1.2.1).2.2,Nat.le_of_not_lt h2⟩
 ·simp at h
theorem pi0:PI p0:=⟨by simp [p0],⟨by simp [p0],by simp [p0]⟩,by simp [p0]⟩
theorem PI.flush {p:PSt} (h:PI p):PI (jn p).2:=by
 unfold jn;split
 ·exact h
 ·rename_i hl
  split
  ·exact h
  ·rename_i hu
   split
   ·exact h
   ·rename_i hf
    have d6:=h.full hl (by simpa using hf);refine⟨h.items,⟨by simp;omega,fun f hm=>?_⟩,by simp⟩;rcases List.mem_append.1 hm with hm|hm
    ·exact h.fields.2 f hm
    ·simp at hm;subst hm;exact qgf (by simpa using hu)
theorem PI.close {p:PSt} (h:PI p):PI (xq p):=by
 unfold xq;split
 ·exact⟨h.items,⟨by simp,by simp⟩,fun h1 h2=>by simp⟩
 ·refine⟨fun x hx=>?_,⟨by simp,by simp⟩,fun h1 h2=>by simp⟩
  rcases List.mem_append.1 hx with hx|hx
  ·exact h.items x hx
  ·simp at hx
   subst hx;refine⟨h.fields,?_⟩;simp only;split
   ·rename_i h0;simp [h0]
   ·rename_i h0;simp [h0]
theorem PI.end' {p:PSt} (h:PI p):PI (endP p).2:=by
 unfold endP;split
 ·exact h
 ·exact h.flush.close
theorem PI.lines' {p:PSt} (h:PI p) (hl:p.lines≠[]) (text:qc):PI { p with lines:=p.lines++[text] }:=⟨h.items,h.fields,fun _ hf=>h.full hl hf⟩
theorem PI.begin' {p:PSt} (h:PI p) (no:Int) (text:qc):PI (ki p no text):=by
 refine⟨h.items,h.fields,fun _ hf=>?_⟩;have:=h.fields.1;simp only [ki,decide_eq_false_iff_not,not_or] at hf ⊢;omega
theorem PI.ahead {p:PSt} (h:PI p) (no:Int) (text:qc) (ended:Bool) (kind:Int):PI (jh p no text ended kind).2:=by
 unfold jh;split
 ·split
  ·exact h
  ·rename_i hl
   split
   ·exact h.lines' hl text
   ·exact (h.lines' hl text).flush
 ·split
  ·exact h.end'
  ·exact h.flush
theorem PI.take {p:PSt} (h:PI p) (no:Int) (text:qc) (ended:Bool):PI (wb p no text ended).2:=by
 have ha:=h.ahead no text ended (qs text);unfold wb;split
 ·exact h
 ·split
  ·exact h
  ·split
   ·refine⟨fun x hx=>?_,ha.fields,ha.full⟩
    rcases List.mem_append.1 hx with hx|hx
    ·exact ha.items x hx
    ·simp at hx;subst hx;exact⟨⟨by simp,by simp⟩,by simp⟩
   ·split
    ·have hb:=ha.begin' no text
     exact⟨hb.items,hb.fields,hb.full⟩
    ·exact⟨ha.items,ha.fields,ha.full⟩
theorem PI.run:∀ (ls:List (qc×Bool)) (k:Nat) (p:PSt),PI p→PI (runL k ls p).2
 | [],k,p,h=>h.end'
 |(t,e)::r,k,p,h=>by
  unfold runL;split
  ·exact h
  ·exact PI.run r (k+1) _ (h.take k t e)
theorem qka (text:qc):∀ x∈(jj text).2,GF x.fields∧(x.kind=3↔x.fields≠[]):=by
 unfold jj;split
 ·simp
 ·exact (PI.run _ 0 _ pi0).items
theorem qy1 (p:PSt):(xq p).items.length≤p.items.length+1:=by
 unfold xq;split <;> simp
theorem qia (p:PSt):(jn p).2.items=p.items:=by
 unfold jn;split
 ·rfl
 ·split
  ·rfl
  ·split <;> rfl
theorem qry (p:PSt):(endP p).2.items.length≤p.items.length+1:=by
 unfold endP;split
 ·simp
 ·have:=qy1 (jn p).2
  rw [qia] at this;exact this
theorem qx6 (p:PSt) (no:Int) (text:qc) (ended:Bool) (kind:Int):(jh p no text ended kind).2.items.length≤p.items.length+1:=by
 unfold jh;split
 ·split
  ·simp
  ·split
   ·simp
   ·rw [qia];simp
 ·split
  ·exact qry p
  ·rw [qia];simp
theorem q3n (p:PSt) (no:Int) (text:qc) (ended:Bool):(wb p no text ended).2.items.length≤p.items.length+2:=by
 have ha:=qx6 p no text ended (qs text);unfold wb;split
 ·simp
 ·split
  ·simp
  ·split
   ·simp;omega
   ·split
    ·simp [ki];omega
    ·simp;omega
theorem qho:∀ (ls:List (qc×Bool)) (k:Nat) (p:PSt),(runL k ls p).2.items.length≤p.items.length+2 * ls.length+1
 | [],k,p=>by have:=qry p;simp [runL];omega
 |(t,e)::r,k,p=>by
  unfold runL;split
  ·simp;omega
  ·have h1:=qho r (k+1) (wb p k t e).2
   have h2:=q3n p k t e;simp only [List.length_cons];omega
theorem q93 (text:qc):(jj text).2.length≤2 * text.length+1:=by
 unfold jj;split
 ·simp
 ·have h1:=qho (zj text) 0 p0
  have h2:=(qcx _ text (Nat.le_refl _)).2;have h3:p0.items.length=0:=rfl;simp only;omega
theorem q57 (by' l:qc):(vn by' l).1.length≤l.length:=by
 unfold vn;split
 ·have h:=(qcx _ l (Nat.le_refl _)).1
  have key:∀ (ls:List (qc×Bool)),(ls.flatMap fun x=>x.1.drop by'.length++wt x.2).length≤lsum ls:=by
   intro ls
   induction ls with
   |nil=>simp [lsum]
   |cons x r ih=>
    simp only [lsum,List.flatMap_cons,List.length_append,List.map_cons,List.sum_cons,List.length_drop] at ih ⊢;omega
  have:=key (zj l);simp only;omega
 ·simp
end Go.Pl
namespace Go.Proofs.YtapblfabkbdgcaaGreatDoor
open Go Go.Av Go.RowKit Go.Proofs Go.Pl
theorem ql0 (text:qc) (st:List AObj) (hl:text.length≤60000) (h:(jj text).1=none):qo E 49 [Sv text] st fun r st'=>r = .tu [w8 (jj text).2,.v .nilIface]∧st'=st:=by
 have:=qqu text st hl;unfold qc1 at this;rw [h] at this;exact this
theorem q3h (text:qc) (st:List AObj) (a n:Int) (hl:text.length≤60000) (h:(jj text).1=some (a,n)):qo E 49 [Sv text] st fun r st'=>r = .tu [w8 (jj text).2,.ifc 73 (.pp [Iv a,.ifc 50 (Iv n)])]∧st'=st:=by
 have:=qqu text st hl;unfold qc1 at this;rw [h] at this;exact this
def qct (text:qc):List Fld×Bool:=
 if (vn [32,32] text).2=false∨(jj (vn [32,32] text).1).1≠none then ([],false)
 else match y3 (jj (vn [32,32] text).1).2 with
  | []=>([],decide ((vn [32,32] text).1=[]))
  |f::_=>(f,decide ((jj (vn [32,32] text).1).2.length=1))
theorem zjz {a b:List Fld} {c d:Bool} (h1:a=b) (h2:c=d):AV.tu [zp a,Bv c]=AV.tu [zp b,Bv d]:=by rw [h1,h2]
theorem q63 {its:List za} (h:∀ x∈its,GF x.fields∧(x.kind=3↔x.fields≠[])):∀ fs∈y3 its,GF fs∧fs≠[]:=fun fs hfs=>by
 obtain⟨x,hx,rfl⟩:=List.mem_map.1 hfs;obtain⟨rk,hx2⟩:=List.mem_filter.1 hx;have:=h x rk;exact⟨this.1,this.2.1 (by simpa using hx2)⟩
set_option maxHeartbeats 2000000 in
theorem zcg (text:qc) (st:List AObj) (hl:text.length≤60000):qo E 114 [Sv text] st fun r st'=>r = .tu [zp (qct text).1,Bv (qct text).2]∧st'=st:=by
 refine ze (j9 (qa6 _) (q8 _)) (qr Tryz.func114 rfl (Nat.le_of_ble_eq_true rfl) ?_);have hdl:=q57 [32,32] text;have t6:=q93 (vn [32,32] text).1;have hit:=qka (vn [32,32] text).1;unfold qct;obtain⟨d,hd⟩:∃ d,d=vn [32,32] text:=⟨_,rfl⟩;have nt:∀ st,qo E 157 [Sv text,Sv [32,32]] st fun r st'=>r = .tu [Sv d.1,Bv d.2]∧st'=st:=fun st=>by rw [hd];exact zb2 text [32,32] st (by omega)
 rw [← hd] at hdl t6 hit ⊢;obtain⟨b,ok⟩:=d;simp only at hdl t6 hit nt ⊢
 cases hp:(jj b).1 with
 |some e=>
  obtain⟨a,n⟩:=e;rw [if_pos (.inr (by simp))]
  cases ok
  all_goals
   repeat' (first|apply qm|apply qg|apply qh|apply ql|apply qi|(apply zz;exact rfl;exact rfl)|(apply kp;exact rfl)|(apply zm;(iterate 4 exact rfl))|(apply qgo;exact cRa)|(apply qld;exact cRa)|(apply qx;exact rfl;apply qxw;exact cRa)|(apply qx;exact rfl;apply qoo;exact cRa)|(apply qe;exact rfl;apply cd_t;exact cRa)|(apply y4;exact rfl;exact rfl)|apply q6|(apply qq;exact Tryz.call157;exact nt _)|(apply qq;exact Tryz.call49;exact q3h _ _ _ _ (by omega) hp))
   exact qn rfl (wu (vm rfl) (qeg (qfj 2) (qbc (Bv false)))) ⟨rfl,_,rfl⟩
 |none=>
  cases ok
  ·rw [if_pos (.inl rfl)]
   repeat' (first|apply qm|apply qg|apply qh|apply ql|apply qi|(apply zz;exact rfl;exact rfl)|(apply kp;exact rfl)|(apply zm;(iterate 4 exact rfl))|(apply qld;exact cRa)|(apply qx;exact rfl;apply qxw;exact cRa)|(apply qe;exact rfl;apply cd_t;exact cRa)|apply q6|(apply qq;exact Tryz.call157;exact nt _)|(apply qq;exact Tryz.call49;exact ql0 _ _ (by omega) hp))
   exact qn rfl (wu (vm rfl) (qeg (qfj 2) (qbc (Bv false)))) ⟨rfl,_,rfl⟩
  ·rw [if_neg (by simp)]
   have hsc:=fun st=>zay (jj b).2 st (by omega) (fun x hx=>by have:=(hit x hx).1.1;omega);have i6:((jj b).2.map vr).length=(jj b).2.length:=by simp
   cases hr:y3 (jj b).2 with
   |nil=>
    rw [hr] at hsc;repeat' (first|apply qm|apply qg|apply qh|apply ql|apply qi|(apply zz;exact rfl;exact rfl)|(apply qt;(iterate 3 exact rfl))|(apply kr;(iterate 3 exact rfl))|(apply kp;exact rfl)|(apply zm;(iterate 4 exact rfl))|(apply qgo;exact cRa)|(apply qx;exact rfl;apply qoo;exact cRa)|(apply qe;exact rfl;apply cd_t;exact cRa)|(apply qe;exact rfl;apply cd_f;exact cRa)|(apply ja;(iterate 4 exact rfl))|(apply x8;exact rfl;exact rfl)|apply qw|apply q6|(apply qq;exact Tryz.call157;exact nt _)|(apply qq;exact Tryz.call49;exact ql0 _ _ (by omega) hp)|(apply qq;exact Tryz.call158;exact hsc _))
    exact qn rfl (wu (vm rfl) (qeg (qfj 2) (qbc (Bv (decide (b=[])))))) ⟨rfl,_,rfl⟩
   |cons f r=>
    rw [hr] at hsc;have dk:((f::r).map zp).length=r.length+1:=by simp
    repeat' (first|apply qm|apply qg|apply qh|apply ql|apply qi|(apply zz;exact rfl;exact rfl)|(apply qt;(iterate 3 exact rfl))|(apply kp;exact rfl)|(apply zm;(iterate 4 exact rfl))|(apply qgo;exact cRa)|(apply qx;exact rfl;apply qoo;exact cRa)|(apply qe;exact rfl;apply wm;exact cAo)|(apply qe;exact rfl;apply cd_f;exact cRa)|(apply ja;(iterate 4 exact rfl))|(apply x8;exact rfl;exact rfl)|(apply jo;(iterate 3 exact rfl))|apply qw|apply q6|(apply qq;exact Tryz.call157;exact nt _)|(apply qq;exact Tryz.call49;exact ql0 _ _ (by omega) hp)|(apply qq;exact Tryz.call158;exact hsc _)|(apply j8 (n:=0);(iterate 6 exact rfl)))
    refine qn rfl (vm rfl) ⟨zjz rfl (decide_eq_decide.2 ?_),_,rfl⟩;rw [i6];omega
def xv (text:qc):List LnV→Nat→List qc
 | [],frm=>[text.drop frm]
 |l::r,frm=>if frm<l.at'∧¬ [32,32] <+: l.text then (text.take l.at').drop frm::xv text r l.at' else xv text r frm
def qdv (text:qc):List qc:=xv text (lns text) 0
theorem q9c (l m:qc) (st:List AObj) (h:m <+: l):qo E 154 [Sv l,Sv m] st fun r st'=>r=Bv true∧st'=st:=by
 have:=qjz l m st;rw [(y6 l m).2 h] at this;exact this
theorem q9b (l m:qc) (st:List AObj) (h:¬ m <+: l):qo E 154 [Sv l,Sv m] st fun r st'=>r=Bv false∧st'=st:=by
 have:=qjz l m st
 have hf:Lib.hasPrefix l m=false:=by
  cases hb:Lib.hasPrefix l m with
  |false=>rfl
  |true=>exact absurd ((y6 l m).1 hb) h
 rw [hf] at this;exact this
theorem zgv (text:qc) (st:List AObj) (hl:text.length<1000000):qo E 112 [Sv text] st fun r st'=>r=Ss (qdv text)∧st'=st:=by
 refine zw [.s text] (qop _) Tryz.func112 rfl rfl (fun _=>rfl) rfl fun S0=>?_;apply qf [];repeat' (first|apply And.intro|(intro h;try exact cDd)|exact⟨Tryz.call82⟩|(refine Exists.intro _ ⟨qtg _,?_⟩)|exact cSd|apply qd []|refine exr ?_|refine qk ?_)
 refine qkv (X:=List qc×Nat) text 2 3 [0,1,2] (fun (out,frm)=>⟨[(1,.a (.pp [Sv text])),(3,.bx 0 0),(4,.bx 1 0),(7,.fn (.func 120) [] [.bx 2 0])],
   [(0,some (.cells 110 [.tp 3])),(1,some (.cells 3 [.i frm])),(2,some (.cells 9 [.s text])),(3,some (.tip 1 9 (out.map fun x=>Sv x)))],4⟩) _
  (fun k rest (out,frm)=>∃ a,a+rest.length=text.length∧frm≤a∧out.length≤k∧k≤a∧out++xv text (ve k a rest) frm=qdv text) (fun _ _=>False) ([],0) ⟨0,by simp,by omega,by simp,by omega,rfl⟩ ?_ id (by omega) (fun _=>rfl) rfl (fun _=>rfl) (fun _=>rfl) rfl ?_ ?_ (fun _ _ h=>h.elim)
 ·skip
  repeat' (first|apply And.intro|(intro h;try exact cDd)|exact cSd|apply qd []|refine exr ?_|refine qk ?_)
 ·rintro k rest ⟨out,frm⟩ ⟨a,ha,hfa,hok,px,a8⟩ b8 d5
  have dp:=qaj (k:=k) (a:=a) b8;have hul:=vk 10 rest;have dg:0<rest.length:=List.length_pos_iff.2 b8;have t6:=vo 10 rest
  have hpa:a+(upto 10 rest).length+1+(past 10 rest).length=text.length∨past 10 rest=[]:=by
   by_cases f9:10∈rest
   ·have:=qdq f9
    exact .inl (by omega)
   ·right
    unfold past;rw [qcc f9];simp
  have tk:∀ f,xv text (ve (k+1) (a+(upto 10 rest).length+1) (past 10 rest)) f=xv text (ve (k+1) (text.length - (past 10 rest).length) (past 10 rest)) f:=fun f=>by
   rcases hpa with h|h
   ·have:a+(upto 10 rest).length+1=text.length - (past 10 rest).length:=by omega
    rw [this]
   ·rw [h,qae,qae]
  have e:(text.length:Int) - rest.length=(a:Int):=by omega
  rw [dp,xv] at a8;unfold qof;rw [e];by_cases hp:[32,32] <+: upto 10 rest
  ·have hhp:=fun st=>q9c (upto 10 rest) [32,32] st hp
   rw [if_neg (fun h=>h.2 hp),tk] at a8;refine RA.mk fun S F ρ rd=>?_;apply qf [];repeat' (first|apply And.intro|(intro h;try exact cDd)|(refine RB.mk fun S rd=>?_;apply qf [])|exact⟨Tryz.call154⟩|refine cpe hhp ?_|(refine Exists.intro (out,frm) ⟨⟨text.length - (past 10 rest).length,by omega,by omega,by omega,by omega,a8⟩,?_⟩)|exact cSd|apply qd []|refine exr ?_|refine qk ?_)
  ·have hhp:=fun st=>q9b (upto 10 rest) [32,32] st hp
   by_cases hfr:frm<a
   ·rw [if_pos ⟨hfr,hp⟩,tk] at a8
    refine RA.mk fun S F ρ rd=>?_;apply qf [];repeat' (first|apply And.intro|(intro h;try exact cDd)|(refine RB.mk fun S rd=>?_;apply qf [25])|exact⟨Tryz.call154⟩|refine cpe hhp ?_|(refine Exists.intro (out++[(text.take a).drop frm],a) ⟨⟨text.length - (past 10 rest).length,by omega,by omega,by simp;omega,by omega,by rw [← a8];simp⟩,?_⟩)|exact cSd|apply qd [25]|refine exr ?_|refine qk ?_)
    all_goals first|(simp [SV.evs];omega)|(simp [SV.evs,SV.ev];done)
   ·rw [if_neg (fun h=>hfr h.1),tk] at a8
    refine RA.mk fun S F ρ rd=>?_;apply qf [];repeat' (first|apply And.intro|(intro h;try exact cDd)|(refine RB.mk fun S rd=>?_;apply qf [])|exact⟨Tryz.call154⟩|refine cpe hhp ?_|(refine Exists.intro (out,frm) ⟨⟨text.length - (past 10 rest).length,by omega,by omega,by omega,by omega,a8⟩,?_⟩)|exact cSd|apply qd []|refine exr ?_|refine qk ?_)
 ·rintro k ⟨out,frm⟩ ⟨a,ha,hfa,hok,px,a8⟩
  rw [qae,xv] at a8;repeat' (first|apply And.intro|(intro h;try exact cDd)|exact cSd|apply qd []|refine exr ?_|refine qk ?_)
  rw [← a8];simp
def decP:List qc→List qp→Option (List qp)
 | [],acc=>some acc
 |p::r,acc=>match begE (upto 10 p) with
  |none=>none
  |some (k,n)=>if (qct (past 10 p)).2=true∧acc.length≠40 then decP r (acc++[⟨k,n,(qct (past 10 p)).1⟩]) else none
def decF (text:qc):Option (List qp):=if 50000<text.length then none else match decP (qdv text) [] with
 |none=>none
 |some b=>if eErr b = .no∧encF b=text then some b else none
def decA:Option (List qp)→AV
 |none=>.tu [ku [],.ifc 50 (Iv 2)]
 |some b=>.tu [ku b,.v .nilIface]
theorem qvk (x:Option (List qp)):Pure (decA x):=by
 rcases x with _|b
 ·exact j9 (qbh _) (qee (q8 _))
 ·exact j9 (qbh _) (q8 _)
theorem qjj (text:qc):∀ (ls:List LnV) (f:Nat),(∀ p∈xv text ls f,p.length≤text.length)∧(xv text ls f).length≤ls.length+1
 | [],f=>by simp [xv]
 |l::r,f=>by
  unfold xv;split
  ·obtain⟨h1,h2⟩:=qjj text r l.at'
   refine⟨fun p hp=>?_,by simp;omega⟩;rcases List.mem_cons.1 hp with rfl|hp
   ·simp;omega
   ·exact h1 p hp
  ·obtain⟨h1,h2⟩:=qjj text r f
   exact⟨h1,by simp;omega⟩
theorem qt1 {l:qc} {k n:Int} (h:begE l=some (k,n)) : -9223372036854775808≤n∧n≤9223372036854775807:=by
 have key:∀ {j:Int} {n:Int},tryB j l=some n→-9223372036854775808≤n∧n≤9223372036854775807:=fun {j n} h=>by
  unfold tryB at h;split at h
  ·split at h
   ·rename_i v hv
    cases h
    exact Lib.atoiAll_bounds hv
   ·simp at h
  ·simp at h
 unfold begE at h;split at h
 ·rename_i v hv;simp at h;rw [← h.2];exact key hv
 ·split at h
  ·rename_i v hv;simp at h;rw [← h.2];exact key hv
  ·split at h
   ·rename_i v hv;simp at h;rw [← h.2];exact key hv
   ·simp at h
theorem qpf (text:qc):GF (qct text).1:=by
 unfold qct;split
 ·exact⟨by simp,by simp⟩
 ·split
  ·exact⟨by simp,by simp⟩
  ·rename_i f r hr
   exact (q63 (qka _) f (by rw [hr];simp)).1
theorem q81 {k n:Int} {fs:List Fld} (h1 : -9223372036854775808≤n) (h2:n≤9223372036854775807) (hg:GF fs):EdB ⟨k,n,fs⟩:=
 ⟨fun f hf=>by have:=(hg.2 f hf).1.2.1;omega,by have:=hg.1;simp only;omega,h1,h2⟩
set_option maxHeartbeats 4000000 in
theorem zb1 (text:qc) (st:List AObj) (hl:text.length<1000000):qo E 75 [Sv text] st fun r st'=>r=decA (decF text)∧st'=st:=by
 refine zw [.s text] (qvk _) Tryz.func75 rfl rfl (fun _=>rfl) rfl fun S0=>?_;by_cases cr:50000<text.length
 ·have hd:decF text=none:=if_pos cr
  rw [hd];apply qf [];repeat' (first|apply And.intro|(intro h;try exact cDd)|exact cSd|apply qd []|refine exr ?_|refine qk ?_)
 have g7:decF text=match decP (qdv text) [] with
  |none=>none
  |some b=>if eErr b = .no∧encF b=text then some b else none:=if_neg cr
 have t6:=(qjj text (lns text) 0).1;have hpn:=(qjj text (lns text) 0).2;have hln:=qet _ text 0 0 (Nat.le_refl _);have hpe:xv text (lns text) 0=qdv text:=rfl;have d5:(lns text).length≤text.length:=hln;rw [hpe] at t6 hpn;have i6:((qdv text).map fun x=>Sv x).length=(qdv text).length:=by simp
 have hpc:=fun st=>zgv text st hl;generalize qdv text=L at g7 t6 hpn i6 hpc;apply qf [];repeat' (first|apply And.intro|(intro h;try exact cDd)|exact⟨Tryz.call112⟩|refine cpe hpc ?_|exact cSd|apply qd []|refine exr ?_|refine qk ?_)
 refine j5 (X:=Nat×List qp) (fun (k,acc)=>⟨[(0,.s text),(4,.tp 0),(21,.a (Ss L)),(22,.i L.length),(23,.i k)],[(0,some (.tip 3 55 (acc.map z6)))],1⟩)
  (fun (k,acc)=>k≤L.length∧acc.length≤k∧(∀ x∈acc,EdB x)∧decP (L.drop k) acc=decP L []) (fun x=>L.length - x.1) (0,[]) ⟨by omega,by simp,by simp,rfl⟩ ?_ ?_
 ·skip
  repeat' (first|apply And.intro|(intro h;try exact cDd)|exact cSd|apply qd []|refine exr ?_|refine qk ?_)
  all_goals first|(simp;done)
 ·rintro⟨j,acc⟩ ⟨hj,hal,hB,a8⟩
  have hma:(acc.map z6).length=acc.length:=by simp
  by_cases hc:j<L.length
  ·obtain⟨p,hx⟩:∃ p,L[j]? = some p:=⟨_,List.getElem?_eq_getElem hc⟩
   have hg:(L.map fun x=>Sv x)[j]? = some (Sv p):=by simp [hx]
   have hd:L.drop j=p::L.drop (j+1):=by
    obtain⟨d6,e⟩:=List.getElem?_eq_some_iff.1 hx;rw [List.drop_eq_getElem_cons d6,e]
   have hpp:=t6 p (List.mem_of_getElem? hx);have hul:=vk 10 p;have hpal:=vo 10 p;have hcu:=fun st=>qko p 10 st (by omega);have sc:=fun st=>ze5 (upto 10 p) st (by omega);have pw:=qpf (past 10 p);have p6:=fun st=>zcg (past 10 p) st (by omega);rw [hd,decP] at a8
   cases sd:begE (upto 10 p) with
   |none=>
    rw [sd] at a8 sc;simp only at a8;rw [← a8] at g7;simp only at g7;rw [g7];apply qf []
    repeat' (first|apply And.intro|(intro h;try exact cDd)|(refine Exists.intro (j) ⟨by omega,_,hg,?_⟩)|exact⟨Tryz.call39⟩|refine cpe hcu ?_|exact⟨Tryz.call113⟩|refine cpe sc ?_|exact⟨Tryz.call114⟩|refine cpe p6 ?_|exact cSd|apply qd []|refine exr ?_|refine qk ?_)
   |some kn=>
    obtain⟨kd,n⟩:=kn;have cj:=qt1 sd;rw [sd] at a8 sc;simp only at a8;obtain⟨fs,hfs⟩:∃ x,x=(qct (past 10 p)).1:=⟨_,rfl⟩;rw [← hfs] at a8 p6 pw
    cases hok:(qct (past 10 p)).2 with
    |false=>
     rw [hok] at a8 p6;rw [if_neg (by simp)] at a8;rw [← a8] at g7;simp only at g7;rw [g7];apply qf []
     repeat' (first|apply And.intro|(intro h;try exact cDd)|(refine Exists.intro (j) ⟨by omega,_,hg,?_⟩)|exact⟨Tryz.call39⟩|refine cpe hcu ?_|exact⟨Tryz.call113⟩|refine cpe sc ?_|exact⟨Tryz.call114⟩|refine cpe p6 ?_|exact cSd|apply qd []|refine exr ?_|refine qk ?_)
    |true=>
     rw [hok] at a8 p6;by_cases lg:acc.length=40
     ·rw [if_neg (by simp [lg])] at a8
      rw [← a8] at g7;simp only at g7;rw [g7];apply qf [];repeat' (first|apply And.intro|(intro h;try exact cDd)|(refine Exists.intro (j) ⟨by omega,_,hg,?_⟩)|exact⟨Tryz.call39⟩|refine cpe hcu ?_|exact⟨Tryz.call113⟩|refine cpe sc ?_|exact⟨Tryz.call114⟩|refine cpe p6 ?_|exact cSd|apply qd []|refine exr ?_|refine qk ?_)
     ·rw [if_pos ⟨rfl,lg⟩] at a8
      have cn:∀ x∈acc++[⟨kd,n,fs⟩],EdB x:=fun x hx=>by
       rcases List.mem_append.1 hx with hx|hx
       ·exact hB x hx
       ·obtain rfl:=List.mem_singleton.1 hx
        exact q81 cj.1 cj.2 pw
      apply qf [];repeat' (first|apply And.intro|(intro h;try exact cDd)|(refine Exists.intro (j) ⟨by omega,_,hg,?_⟩)|exact⟨Tryz.call39⟩|refine cpe hcu ?_|exact⟨Tryz.call113⟩|refine cpe sc ?_|exact⟨Tryz.call114⟩|refine cpe p6 ?_|(refine Exists.intro (j+1,acc++[⟨kd,n,fs⟩]) ⟨⟨by omega,by simp;omega,cn,a8⟩,by simp only;omega,?_⟩)|exact cSd|apply qd []|refine exr ?_|refine qk ?_)
      all_goals (simp;done)
  ·have hd:L.drop j=[]:=List.drop_eq_nil_of_le (by omega)
   rw [hd,decP] at a8;rw [← a8] at g7;simp only at g7
   cases he:eErr acc with
   |no=>
    have dq:=fun st=>qvu acc st hB he;by_cases ht:encF acc=text
    ·rw [if_pos ⟨he,ht⟩] at g7
     rw [g7];rw [ht] at dq;apply qf [];repeat' (first|apply And.intro|(intro h;try exact cDd)|exact⟨Tryz.call35⟩|refine cpe dq ?_|exact cSd|apply qd []|refine exr ?_|refine qk ?_)
    ·rw [if_neg fun h=>ht h.2] at g7
     rw [g7];apply qf [];repeat' (first|apply And.intro|(intro h;try exact cDd)|exact⟨Tryz.call35⟩|refine cpe dq ?_|exact cSd|apply qd []|refine exr ?_|refine qk ?_)
     all_goals exact absurd ht (by assumption)
   |num n=>
    have dq:=fun st=>qm5 acc st (.num n) hB (by omega) he fun h=>by
     have:=(qi5 acc).1 (by rw [he];exact h);rw [he] at this;simp at this
    rw [if_neg fun h=>by rw [he] at h;simp at h] at g7;rw [g7];apply qf []
    repeat' (first|apply And.intro|(intro h;try exact cDd)|exact⟨Tryz.call35⟩|refine cpe dq ?_|exact cSd|apply qd []|refine exr ?_|refine qk ?_)
   |at' a n=>
    have dq:=fun st=>qm5 acc st (.at' a n) hB (by omega) he fun h=>by
     have:=(qi5 acc).1 (by rw [he];exact h);rw [he] at this;simp at this
    rw [if_neg fun h=>by rw [he] at h;simp at h] at g7;rw [g7];apply qf [];repeat' (first|apply And.intro|(intro h;try exact cDd)|exact⟨Tryz.call35⟩|refine cpe dq ?_|exact cSd|apply qd []|refine exr ?_|refine qk ?_)
theorem qua:zef E:=fun _ _ _ h hb hB _ h2=>h _ (hb.trans (h2.mono hB))
theorem zfu : (Tryz.prog.fieldsOf 98).toList = [⟨ "Key", 9, 0, false, "", "", 0⟩, ⟨ "Value", 9, 1, false, "", "", 16⟩] := by kernel_rfl
theorem zft (a b c d:ByteArray) (w:World):(Op.equalIn 10000 98 (.agg #[.string a,.string b]) (.agg #[.string c,.string d])).run Tryz.prog w = .ok (a.toList == c.toList && b.toList == d.toList) w:=by
 rw [run_equalIn_agg w 9999 98 _ _ (by kernel_rfl) (by kernel_rfl),zfu];have p1:∀ (x y:ByteArray) w,(part 9 #[.string x,.string y] 0).run Tryz.prog w = .ok (.string x) w:=fun x y w=>by kernel_rfl
 have p2:∀ (x y:ByteArray) w,(part 9 #[.string x,.string y] 1).run Tryz.prog w = .ok (.string y) w:=fun x y w=>by kernel_rfl
 have hs:∀ (x y:ByteArray) w,(Op.equalIn 9999 9 (.string x) (.string y)).run Tryz.prog w = .ok (x.toList == y.toList) w:=fun x y w=>run_equalIn_string w 9998 9 x y (by kernel_rfl);simp only [Op.eqFields,Sem.run_bind,Sem.run_ite,p1,p2,hs,Result.andThen_ok,Sem.run_pure]
 cases hac:(a.toList == c.toList) <;> cases hbd:(b.toList == d.toList) <;> simp
theorem q4t {G:Gh} {f:Fld} {v:Value} (h:Rel G (fldA f) v):v = .agg #[.string ⟨f.1.toArray⟩,.string ⟨f.2.toArray⟩]:=by
 cases h with
 |ag _ vs hl h=>
  match vs,hl with
  | ⟨[x,y]⟩,_=>
   have h1:=h 0 _ x rfl rfl;have h2:=h 1 _ y rfl rfl
   cases h1
   cases h2
   rfl
theorem zgm (f g:Fld) (w:World):(binOp .neq 98 (.agg #[.string ⟨f.1.toArray⟩,.string ⟨f.2.toArray⟩]) (.agg #[.string ⟨g.1.toArray⟩,.string ⟨g.2.toArray⟩])).run Tryz.prog w = .ok (.bool (decide (f≠g))) w:=by
 rw [run_neq_struct,zft];simp only [Result.andThen_ok,ByteArray.toList_eq];obtain⟨a,b⟩:=f;obtain⟨c,d⟩:=g;congr 2;by_cases h1:a=c <;> by_cases h2:b=d <;> simp [h1,h2]
section
variable {N : Nat} {ops : Array Oper} {K : AS → Prop} {s : AS} {rest : List Oper} {d : Option Tmp} {T : TypeId} {p : String} {af : Array Edge}
theorem q73 {x y:Operand} {t':TypeId} {f g:Fld} {b:Bool} (hx:qj N s x=fldA f) (hy:qj N s y=fldA g) (hb:decide (f≠g)=b)
  (h:AQ E N ops rest K (s.put d (Bv b))):AQ E N ops (⟨d,.binOp .neq 98 x y t',T,p,af,none⟩::rest) K s:=by
 subst hb;refine qdc rfl nofun fun B0 w0 G a w _ hI=>⟨.bool (decide (f≠g)),_,fun w' _=>?_,.v _,h⟩;have h1:=q4t (hI.eval_of hx);have h2:=q4t (hI.eval_of hy);generalize a.eval = ρ at h1 h2;have hg:(eqGuard .neq 98 x y (.agg #[.string ⟨f.1.toArray⟩,.string ⟨f.2.toArray⟩]) (.agg #[.string ⟨g.1.toArray⟩,.string ⟨g.2.toArray⟩])).run Tryz.prog w' = .ok () w':=run_eqGuard_agg w' _ _ _ _ _ _ (by kernel_rfl);simp [execOp,h1,h2,hg,zgm]
end
theorem qb3 {α : Type} [DecidableEq α] {a b:List α} {k:Nat} {d : α} (hl:a.length=b.length) (hk:k<a.length) (h:a.take k=b.take k) (h2:a.getD k d=b.getD k d):a.take (k+1)=b.take (k+1):=by
 rw [List.take_succ_eq_append_getElem hk,List.take_succ_eq_append_getElem (by omega),h];congr 2
 simpa [List.getD,hk,show k<b.length by omega] using h2
theorem q89 (a b:List Fld) (st:List AObj) (ha:a.length<9223372036854775808):qo E 58 [zp a,zp b] st fun r st'=>r=Bv (decide (a=b))∧st'=st:=by
 refine ze (q8 _) (qr Tryz.func58 rfl (Nat.le_of_ble_eq_true rfl) ?_);have hma:(a.map fldA).length=a.length:=by simp
 have hmb:(b.map fldA).length=b.length:=by simp
 by_cases hl:a.length=b.length
 ·skip
  repeat' (first|apply qm|apply qu|apply qg|apply qh|apply ql|apply qi|(apply qt;(iterate 3 exact rfl))|(apply qe;exact rfl;apply wm;exact cAo)|(apply ja;(iterate 4 exact rfl))|apply qw)
  refine ju (fun (k:Nat) s=>k≤a.length∧a.take k=b.take k∧StE [(0,zp a),(1,zp b),(12,Iv a.length),(13,Iv k)] st [] s) (fun k=>a.length - k) 0 ⟨by omega,by simp,qci ⟨rfl,rfl,congrArg (fun n:Nat=>Iv (n:Int)) hma,rfl,trivial⟩ rfl⟩ ?_;rintro k _ ⟨hk,ht,t,ext,rfl⟩;by_cases hc:k<a.length
  ·by_cases he:a.getD k ([],[])=b.getD k ([],[])
   ·have hn:decide (a.getD k ([],[])≠b.getD k ([],[]))=false:=decide_eq_false fun h=>h he
    repeat' (first|apply qm|apply qu|apply qg|apply qh|apply ql|apply qi|(apply qt;(iterate 3 exact rfl))|(apply qe;exact rfl;apply vj;exact cAo)|(apply qe;exact rfl;apply cd_f;exact cRa)|(apply zn;exact rfl;exact rfl;exact zb (by omega) (by omega))|(apply qh4;exact rfl;kernel_rfl)|apply qgg|(apply qe7;(iterate 3 exact rfl))|apply qej|apply qw|(apply qbs (n:=k);(iterate 5 exact rfl);exact qlb (xs:=a) (by omega))|(apply qbs (n:=k);(iterate 5 exact rfl);exact qlb (xs:=b) (by omega))|(apply q73;exact rfl;exact rfl;exact hn))
    exact⟨k+1,⟨by omega,qb3 hl hc ht he,y9 ⟨rfl,rfl,rfl,rfl,trivial⟩ rfl⟩,by omega⟩
   ·have hn:decide (a.getD k ([],[])≠b.getD k ([],[]))=true:=decide_eq_true he
    have hab:¬ a=b:=fun e=>he (by rw [e]);repeat' (first|apply qm|apply qu|apply qg|apply qh|apply ql|apply qi|(apply qt;(iterate 3 exact rfl))|(apply qe;exact rfl;apply vj;exact cAo)|(apply qe;exact rfl;apply cd_t;exact cRa)|(apply qh4;exact rfl;kernel_rfl)|apply qgg|(apply qe7;(iterate 3 exact rfl))|apply qej|apply qw|apply q6|(apply qbs (n:=k);(iterate 5 exact rfl);exact qlb (xs:=a) (by omega))|(apply qbs (n:=k);(iterate 5 exact rfl);exact qlb (xs:=b) (by omega))|(apply q73;exact rfl;exact rfl;exact hn))
    exact qn rfl (zh rfl) ⟨congrArg Bv (decide_eq_false hab).symm,yl _ _ _ _⟩
  ·have hab:a=b:=by
    have e:k=a.length:=by omega
    rw [e,List.take_length,List.take_of_length_le (by omega)] at ht;exact ht
   repeat' (first|apply qm|apply qg|apply qh|apply qi|(apply qt;(iterate 3 exact rfl))|(apply qe;exact rfl;apply wm;exact cAo)|apply jg|apply q6)
   exact qn rfl (zh rfl) ⟨congrArg Bv (decide_eq_true hab).symm,yl _ _ _ _⟩
 ·have hab:¬ a=b:=fun e=>hl (by rw [e])
  repeat' (first|apply qm|apply qg|apply qh|apply ql|apply qi|(apply qt;(iterate 3 exact rfl))|(apply qe;exact rfl;apply vj;exact cAo)|(apply ja;(iterate 4 exact rfl))|apply q6)
  exact qn rfl (zh rfl) ⟨congrArg Bv (decide_eq_false hab).symm,_,rfl⟩
end Go.Proofs.YtapblfabkbdgcaaGreatDoor
namespace Go.Pl
open Go Go.Proofs Go.Proofs.YtapblfabkbdgcaaGreatDoor
theorem w6 (s:qc) (r:List qc):zf (s::r)=s++10::zf r:=by simp [zf]
theorem qbv:∀ (ls:List qc),(∀ s∈ls,10∉s)→zj (zf ls)=ls.map fun s=>(s,true)
 | [],_=>by simp [zf,kv]
 |s::r,h=>by
  have hs:=h s (by simp);rw [w6,vw (by simp),wj _ hs,xb _ hs,qbv r fun x hx=>h x (by simp [hx])];simp
theorem q20 {f:Fld} (h:jt f):∀ s∈zk f,10∉s:=fun s hs=>by
 unfold zk at hs;rcases List.mem_cons.1 hs with rfl|hs
 ·have h1:=qdi f.2 _ (qqb f.2)
  have h2:=h.1.2.2.2.2.2;unfold jw;split <;> simp_all
 ·obtain⟨x,hx,rfl⟩:=List.mem_map.1 hs
  have h1:=qdi f.2 x (List.mem_of_mem_tail hx);have:=qti h1;simp [this]
theorem qnk {f:Fld} (h:jt f):∃ hd mr,zk f=hd::mr∧qs hd=4∧∀ s∈mr,qs s=3:=by
 refine⟨_,_,rfl,qv5 h.1 (qdi f.2 _ (qqb f.2)),fun s hs=>?_⟩;obtain⟨x,hx,rfl⟩:=List.mem_map.1 hs;exact qv6 x (qdi f.2 x (List.mem_of_mem_tail hx))
theorem za5 {p:PSt} {k:Int} {t:qc} (ht:qs t=3) (hl:p.lines≠[]):wb p k t true=(none,{ p with lines:=p.lines++[t],block:=p.block++[t] }):=by
 have ha:jh p k t true (qs t)=(none,{ p with lines:=p.lines++[t] }):=by
  unfold jh;rw [if_pos ht,if_neg hl,if_pos rfl]
 unfold wb;rw [ha,ht];simp
theorem qwy {p q:PSt} {k:Int} {t:qc} (ht:qs t=4) (hf:jn p=(none,q)):wb p k t true=(none,{ ki q k t with block:=q.block++[t] }):=by
 have ha:jh p k t true (qs t)=(none,q):=by
  unfold jh;rw [if_neg (by omega),if_neg (by omega)];exact hf
 unfold wb;rw [ha,ht];simp
theorem qqs:∀ (m:List qc) (k:Nat) (p:PSt) (ls:List (qc×Bool)),(∀ s∈m,qs s=3)→p.lines≠[] →
  runL k (m.map (fun s=>(s,true))++ls) p=runL (k+m.length) ls { p with lines:=p.lines++m,block:=p.block++m }
 | [],k,p,ls,_,_=>by simp
 |s::m,k,p,ls,h,hl=>by
  have hs:=h s (by simp);rw [List.map_cons,List.cons_append,runL,za5 hs hl];simp only;rw [qqs m (k+1) _ ls (fun x hx=>h x (by simp [hx])) (by simp)];simp only [List.append_assoc,List.cons_append,List.nil_append,List.length_cons];congr 1;omega
theorem qr4 {g:Fld} (hg:jt g) (frm:Int) (its:List za) (blk:List qc) (done:List Fld) (rc:Int):jn ⟨zk g,frm,false,its,blk,done,rc⟩=(none,⟨[],frm,false,its,blk,done++[g],rc⟩):=by
 have hu:=qmi hg;unfold jn;rw [if_neg (by simp [zk]),hu];simp
theorem q1i:∀ (r:List Fld) (done:List Fld) (g:Fld) (k:Nat) (frm:Int) (blk:List qc),jt g→(∀ f∈r,jt f)→done.length+1+r.length≤40→blk≠[] →
  (runL k ((r.flatMap zk).map fun s=>(s,true)) ⟨zk g,frm,false,[],blk,done,0⟩).1=none∧(runL k ((r.flatMap zk).map fun s=>(s,true)) ⟨zk g,frm,false,[],blk,done,0⟩).2.items=[⟨3,zf (blk++r.flatMap zk),done++g::r⟩]
 | [],done,g,k,frm,blk,hg,_,_,hb=>by
  have he:endP ⟨zk g,frm,false,[],blk,done,0⟩=(none,xq ⟨[],frm,false,[],blk,done++[g],0⟩):=by
   unfold endP;rw [qr4 hg]
  simp only [List.flatMap_nil,List.map_nil,runL,he,List.append_nil];refine⟨trivial,?_⟩;unfold xq;rw [if_neg hb]
  simp
 |f::r,done,g,k,frm,blk,hg,hr,hl,hb=>by
  have hf:=hr f (by simp);obtain⟨hd,mr,hlf,hk4,cz⟩:=qnk hf;simp only [List.length_cons] at hl
  have a8:runL k (((f::r).flatMap zk).map fun s=>(s,true)) ⟨zk g,frm,false,[],blk,done,0⟩=runL (k+1+mr.length) ((r.flatMap zk).map fun s=>(s,true)) ⟨zk f,k,false,[],blk++zk f,done++[g],0⟩:=by
   rw [List.flatMap_cons,List.map_append,hlf,List.map_cons,List.cons_append,runL,qwy hk4 (qr4 hg frm [] blk done 0)];simp only;rw [qqs mr (k+1) _ _ cz (by simp [ki])]
   have hfu:decide ((done++[g]).length=40∨((done++[g]).length=0∧(0:Int)=400))=false:=by
    simp;omega
   simp only [ki,hfu,List.append_assoc,List.cons_append,List.nil_append]
  rw [a8];have ih:=q1i r (done++[g]) f (k+1+mr.length) k (blk++zk f) hf (fun x hx=>hr x (by simp [hx])) (by simp;omega) (by simp [hb]);rw [ih.1,ih.2];simp [List.flatMap_cons]
theorem qhe (fs:List Fld):z7 fs=zf (fs.flatMap zk):=by
 induction fs with
 |nil=>rfl
 |cons f r ih=>
  rw [List.flatMap_cons,yb,← ih];simp [z7]
theorem qi9 {fs:List Fld} (h:∀ f∈fs,jt f):∀ s∈fs.flatMap zk,10∉s:=fun s hs=>by
 obtain⟨f,hf,hs⟩:=List.mem_flatMap.1 hs;exact q20 (h f hf) s hs
theorem qsy {fs:List Fld} (hg:GF fs) (b8:fs≠[]):jj (z7 fs)=(none,[⟨3,z7 fs,fs⟩]):=by
 have hl:=qbv _ (qi9 hg.2);rw [← qhe] at hl
 cases fs with
 |nil=>exact absurd rfl b8
 |cons f r=>
  have hf:=hg.2 f (by simp);obtain⟨hd,mr,hlf,hk4,cz⟩:=qnk hf;have c8:=hg.1;simp only [List.length_cons] at c8
  have a8:runL 0 (((f::r).flatMap zk).map fun s=>(s,true)) p0=runL (0+1+mr.length) ((r.flatMap zk).map fun s=>(s,true)) ⟨zk f,(0:Nat),false,[],zk f,[],0⟩:=by
   have i3:jn p0=(none,p0):=rfl;rw [List.flatMap_cons,List.map_append,hlf,List.map_cons,List.cons_append,runL,qwy hk4 i3];simp only;rw [qqs mr (0+1) _ _ cz (by simp [ki])];simp [ki,p0]
  have ih:=q1i r [] f (0+1+mr.length) (0:Nat) (zk f) hf (fun x hx=>hg.2 x (by simp [hx])) (by simp;omega) (by simp [zk]);unfold jj;rw [hl,a8,ih.1];simp only;rw [ih.2];rw [qhe,List.flatMap_cons,List.nil_append]
theorem q94:jj []=(none,[]):=by
 unfold jj;rw [kv];rfl
theorem qpj {ls:List qc} (h:∀ s∈ls,10∉s):x6 [32,32] (zf ls)=zf (ls.map fun s=>[32,32]++s):=by
 unfold x6 indF;rw [qbv ls h];simp only [zf,List.flatMap_map,wt,if_pos]
theorem qzt {ls:List qc} (h:∀ s∈ls,10∉s):∀ s∈ls.map (fun s=>[32,32]++s),10∉s:=fun s hs=>by
 obtain⟨x,hx,rfl⟩:=List.mem_map.1 hs;have:=h x hx;simp [this]
theorem qxc {ls:List qc} (h:∀ s∈ls,10∉s):vn [32,32] (x6 [32,32] (zf ls))=(zf ls,true):=by
 rw [qpj h];unfold vn;rw [qbv _ (qzt h),if_pos]
 ·simp [zf,List.flatMap_map,wt]
 ·intro x hx
  obtain⟨s,hs,rfl⟩:=List.mem_map.1 hx;obtain⟨y,_,rfl⟩:=List.mem_map.1 hs;exact List.prefix_append _ _
theorem qxe {fs:List Fld} (hl:fs.length≤40) (hg:∀ f∈fs,jt f):qct (x6 [32,32] (z7 fs))=(fs,true):=by
 have hd:vn [32,32] (x6 [32,32] (z7 fs))=(z7 fs,true):=by
  rw [qhe];exact qxc (qi9 hg)
 unfold qct;rw [hd];simp only;by_cases h0:fs=[]
 ·subst h0
  have hp:jj (z7 [])=(none,[]):=q94;rw [hp];simp [y3,z7]
 ·rw [qsy ⟨hl,hg⟩ h0]
  simp [y3]
theorem qsb {j k:Int} {s:qc} (hj:j=1∨j=2∨j=3) (hk:k=1∨k=2∨k=3) (b8:j≠k):¬ x4 j <+: x4 k++s:=by
 rintro⟨t,ht⟩;have h2:=congrArg (List.take 2) ht;rcases hj with rfl|rfl|rfl <;> rcases hk with rfl|rfl|rfl <;> first|exact absurd rfl b8|(revert h2;simp [x4])
theorem q8d {x:qp} (hk:x.kind=1∨x.kind=2∨x.kind=3) (h1 : -9223372036854775808≤x.id) (h2:x.id≤9223372036854775807):begE (jx x)=some (x.kind,x.id):=by
 have hl:jx x=x4 x.kind++Lib.itoa x.id:=by
  unfold jx;rw [if_pos (by omega)]
 have g8:tryB x.kind (jx x)=some x.id:=by
  unfold tryB;rw [hl,if_pos (List.prefix_append _ _),List.drop_left,qrn h1 h2]
 have g9:∀ j:Int,(j=1∨j=2∨j=3)→j≠x.kind→tryB j (jx x)=none:=fun j hj b8=>by
  unfold tryB;rw [hl,if_neg (qsb hj hk b8)]
 unfold begE;rcases hk with h|h|h
 ·rw [h] at g8 g9 ⊢
  rw [g8]
 ·rw [h] at g8 g9 ⊢
  rw [g9 1 (by simp) (by decide),g8]
 ·rw [h] at g8 g9 ⊢
  rw [g9 1 (by simp) (by decide),g9 2 (by simp) (by decide),g8]
def qam (x:qp):List qc:=(x.fields.flatMap zk).map fun s=>[32,32]++s
theorem qj3 (v:Int):∀ c∈Lib.itoa v,c≠10∧c≠32:=fun c hc=>by
 by_cases hv:v<0
 ·rw [qec hv] at hc
  rcases List.mem_cons.1 hc with rfl|hc
  ·decide
  ·have:=wn _ _ (Nat.le_refl _) c hc
   constructor <;> rintro rfl <;> simp at this
 ·rw [qed (by omega)] at hc
  have:=wn _ _ (Nat.le_refl _) c hc;constructor <;> rintro rfl <;> simp at this
theorem qb1 (x:qp):10∉jx x:=by
 unfold jx;split
 ·rename_i hk
  have h1:=qj3 x.id;intro hc;rcases List.mem_append.1 hc with hc|hc
  ·have:x.kind=1∨x.kind=2∨x.kind=3:=by omega
   rcases this with h|h|h <;> rw [h] at hc <;> revert hc <;> decide
  ·exact (h1 10 hc).1 rfl
 ·simp
theorem qj6 {x:qp} (hk:x.kind=1∨x.kind=2∨x.kind=3):¬ [32,32] <+: jx x:=by
 unfold jx;rw [if_pos (by omega)];rintro⟨t,ht⟩;have h2:=congrArg (List.take 2) ht;rcases hk with h|h|h <;> rw [h] at h2 <;> revert h2 <;> simp [x4]
theorem qf6 {x:qp} (hg:∀ f∈x.fields,jt f):jm x=zf (jx x::qam x):=by
 unfold jm qam;rw [w6,qhe,qpj (qi9 hg)];simp
theorem qva {x:qp} (hg:∀ f∈x.fields,jt f):∀ s∈qam x,10∉s:=qzt (qi9 hg)
theorem qdh (text:qc):∀ (m:List qc) (k a f:Nat) (R:qc),(∀ s∈m,10∉s∧[32,32] <+: s)→∃ k',xv text (ve k a (zf m++R)) f=xv text (ve k' (a+(zf m).length) R) f
 | [],k,a,f,R,_=>⟨k,by simp [zf]⟩
 |s::m,k,a,f,R,h=>by
  obtain⟨f9,hp⟩:=h s (by simp);have e:zf (s::m)++R=s++10::(zf m++R):=by rw [w6];simp
  obtain⟨k',ih⟩:=qdh text m (k+1) (a+s.length+1) f R fun x hx=>h x (by simp [hx]);refine⟨k',?_⟩;rw [e,qaj (by simp),wj _ f9,xb _ f9,xv,if_neg (fun h=>h.2 hp),ih,w6];congr 2;simp;omega
theorem qmw {x:qp} (hg:∀ f∈x.fields,jt f):∀ s∈qam x,10∉s∧[32,32] <+: s:=fun s hs=>⟨qva hg s hs,by
 obtain⟨y,_,rfl⟩:=List.mem_map.1 hs
 exact List.prefix_append _ _⟩
structure EncG (x:qp):Prop where
 kind:x.kind=1∨x.kind=2∨x.kind=3
 len:x.fields.length≤40
 good:∀ f∈x.fields,jt f
 id1 : -9223372036854775808≤x.id
 id2:x.id≤9223372036854775807
theorem qsz:∀ (r:List qp) (D:qc) (x:qp) (k:Nat),EncG x→(∀ y∈r,EncG y) →
  xv (D++(jm x++encF r)) (ve k (D.length+((jx x).length+1)) (zf (qam x)++encF r)) D.length=jm x::r.map jm
 | [],D,x,k,hx,_=>by
  obtain⟨k',h⟩:=qdh (D++(jm x++encF [])) (qam x) k (D.length+((jx x).length+1)) D.length (encF []) (qmw hx.good);rw [h];have e:encF []=[]:=rfl;rw [e,qae,xv]
  simp
 |y::r,D,x,k,hx,hr=>by
  have hy:=hr y (by simp);obtain⟨k',h⟩:=qdh (D++(jm x++encF (y::r))) (qam x) k (D.length+((jx x).length+1)) D.length (encF (y::r)) (qmw hx.good);rw [h]
  have e:encF (y::r)=jx y++10::(zf (qam y)++encF r):=by
   have:encF (y::r)=jm y++encF r:=by simp [encF]
   rw [this,qf6 hy.good,w6];simp
  have hlx:(jm x).length=(jx x).length+1+(zf (qam x)).length:=by
   rw [qf6 hx.good,w6];simp;omega
  have e2:encF (y::r)=jm y++encF r:=by simp [encF]
  have db:D.length+((jx x).length+1)+(zf (qam x)).length=(D++jm x).length:=by
   rw [List.length_append,hlx];omega
  rw [db]
  have hc:ve k' (D++jm x).length (encF (y::r))=⟨k',(D++jm x).length,jx y,true⟩::ve (k'+1) ((D++jm x).length+(jx y).length+1) (zf (qam y)++encF r):=by
   rw [e,qaj (by simp),wj _ (qb1 y),xb _ (qb1 y)];simp
  have d6:D.length<(D++jm x).length:=by rw [List.length_append,hlx];omega
  rw [hc,xv,if_pos ⟨d6,qj6 hy.kind⟩];have ih:=qsz r (D++jm x) y (k'+1) hy fun z hz=>hr z (by simp [hz]);have et:D++(jm x++encF (y::r))=(D++jm x)++(jm y++encF r):=by rw [e2];simp
  rw [et]
  have ed:((D++jm x++(jm y++encF r)).take (D++jm x).length).drop D.length=jm x:=by
   rw [List.take_left,List.drop_left]
  rw [ed,List.map_cons];simp only;rw [show (D++jm x).length+(jx y).length+1=(D++jm x).length+((jx y).length+1) by omega,ih]
theorem q99 {x:qp} {r:List qp} (hx:EncG x) (hr:∀ y∈r,EncG y):qdv (encF (x::r))=(x::r).map jm:=by
 have e2:encF (x::r)=jm x++encF r:=by simp [encF]
 have e:encF (x::r)=jx x++10::(zf (qam x)++encF r):=by
  rw [e2,qf6 hx.good,w6];simp
 have h:=qsz r [] x 1 hx hr;simp only [List.nil_append,List.length_nil,Nat.zero_add] at h
 have hc:lns (encF (x::r))=⟨0,0,jx x,true⟩::ve 1 ((jx x).length+1) (zf (qam x)++encF r):=by
  unfold lns;rw [e,qaj (by simp),wj _ (qb1 x),xb _ (qb1 x)];simp
 unfold qdv;rw [hc,xv,if_neg (by simp),e2,h];rfl
theorem qy3:∀ (r acc:List qp),(∀ y∈r,EncG y)→acc.length+r.length≤40→decP (r.map jm) acc=some (acc++r)
 | [],acc,_,_=>by simp [decP]
 |x::r,acc,h,hl=>by
  have hx:=h x (by simp);simp only [List.length_cons] at hl
  have hu:upto 10 (jm x)=jx x:=by
   unfold jm;rw [List.append_assoc];exact wj _ (qb1 x)
  have hp:past 10 (jm x)=x6 [32,32] (z7 x.fields):=by
   unfold jm;rw [List.append_assoc];exact xb _ (qb1 x)
  have i3:=qxe hx.len hx.good;rw [List.map_cons,decP,hu,q8d hx.kind hx.id1 hx.id2];simp only [hp,i3];rw [if_pos ⟨trivial,by omega⟩];have ih:=qy3 r (acc++[⟨x.kind,x.id,x.fields⟩]) (fun y hy=>h y (by simp [hy])) (by simp;omega);rw [ih];simp
theorem qt7 {x:qp} (h:gErr x = .no) (hB:EdB x):EncG x:=by
 obtain⟨h1,h2⟩:=qeq h;refine⟨?_,h1,h2,hB.id1,hB.id2⟩;unfold gErr at h;split at h
 ·exact .inr (.inl (by assumption))
 ·split at h
  ·rename_i hk;omega
  ·simp at h
theorem zff {b:List qp} (he:eErr b = .no) (hB:∀ x∈b,EdB x) (hl:(encF b).length≤50000):decF (encF b)=some b:=by
 obtain⟨h1,lg,hg⟩:=qbt he;have hG:∀ y∈b,EncG y:=fun y hy=>qt7 (hg y hy) (hB y hy);unfold decF;rw [if_neg (by omega)]
 cases b with
 |nil=>simp at h1
 |cons x r=>
  rw [q99 (hG x (by simp)) (fun y hy=>hG y (by simp [hy])),qy3 (x::r) [] hG (by simp at lg ⊢;omega)];simp only [List.nil_append];rw [if_pos ⟨he,trivial⟩]
theorem qd9 {text:qc} {b:List qp} (h:decF text=some b):eErr b = .no∧encF b=text∧text.length≤50000:=by
 unfold decF at h;split at h
 ·simp at h
 ·split at h
  ·simp at h
  ·split at h
   ·rename_i hc
    cases h
    exact⟨hc.1,hc.2,by omega⟩
   ·simp at h
def SpL (L:List qc):Prop:=L≠[]∧∀ s∈L,10∉s∧[32] <+: s
def encL (b:List qp):List qc:=b.flatMap fun x=>jx x::qam x
theorem qvt {b:List qp} (hg:∀ x∈b,EncG x):encF b=zf (encL b):=by
 induction b with
 |nil=>rfl
 |cons x r ih=>
  have e:encL (x::r)=(jx x::qam x)++encL r:=by simp [encL]
  have e2:encF (x::r)=jm x++encF r:=by simp [encF]
  rw [e,yb,e2,qf6 (hg x (by simp)).good,ih fun y hy=>hg y (by simp [hy])]
theorem zgc {x:qp} (hk:x.kind=1∨x.kind=2∨x.kind=3):[32] <+: jx x:=by
 unfold jx;rw [if_pos (by omega)];rcases hk with h|h|h <;> rw [h] <;> exact⟨_,rfl⟩
theorem zfs {b:List qp} (b8:b≠[]) (hg:∀ x∈b,EncG x):SpL (encL b):=by
 refine⟨?_,fun s hs=>?_⟩
 ·cases b with
  |nil=>exact absurd rfl b8
  |cons x r=>simp [encL]
 ·obtain⟨x,hx,hs⟩:=List.mem_flatMap.1 hs
  have hG:=hg x hx;rcases List.mem_cons.1 hs with rfl|hs
  ·exact⟨qb1 x,zgc hG.kind⟩
  ·obtain⟨h1,t,ht⟩:=qmw hG.good s hs
   exact⟨h1,[32]++t,by rw [← ht];rfl⟩
theorem zhc {L:List qc} (h:SpL L):sp true (zf L)=true:=by
 rw [← qlk _ (zf L) (Nat.le_refl _),qbv L fun s hs=>(h.2 s hs).1];intro x hx;obtain⟨s,hs,rfl⟩:=List.mem_map.1 hx;exact (h.2 s hs).2
theorem za7 {L:List qc} (h:SpL L):(zf L)[0]? = some 32:=by
 obtain⟨b8,hs⟩:=h
 cases L with
 |nil=>exact absurd rfl b8
 |cons s r=>
  obtain⟨t,ht⟩:=(hs s (by simp)).2;rw [w6,← ht];rfl
theorem qw0:∀ (L:List qc),L≠[]→(zf L).getLast? = some 10
 | [],h=>absurd rfl h
 | [s],_=>by rw [w6];simp [zf]
 |s::t::r,_=>by
  have ih:=qw0 (t::r) (by simp);have b8:zf (t::r)≠[]:=fun e=>by rw [e] at ih;simp at ih
  rw [w6,List.getLast?_append,List.getLast?_cons,ih];simp
theorem q85 {b:List qp} (he:eErr b = .no) (hB:∀ x∈b,EdB x) (hl:(encF b).length≤50000):qf7 (encF b):=by
 obtain⟨h1,lg,hg⟩:=qbt he;have hG:∀ y∈b,EncG y:=fun y hy=>qt7 (hg y hy) (hB y hy);have b8:b≠[]:=fun e=>by subst e;simp at h1
 have hS:=zfs b8 hG;have ht:=qvt hG;have hh:=za7 hS;have i9:=qw0 _ hS.1;rw [← ht] at hh i9;have dn:=zhc hS;rw [← ht] at dn;refine⟨?_,hl,i9,by rw [qi4];exact dn⟩;rcases hc:encF b with _ | ⟨c,_ | ⟨d,r⟩⟩
 ·rw [hc] at hh;simp at hh
 ·rw [hc] at hh i9
  simp at hh i9;rw [hh] at i9;simp at i9
 ·simp
end Go.Pl
namespace Go.Proofs.YtapblfabkbdgcaaGreatDoor
open Go Go.Av Go.RowKit Go.Proofs Go.Pl
theorem q83 {xs:List qp} {k:Nat} (hk:k<xs.length):(xs.map z6)[k]? = some (z6 (xs.getD k ⟨0,0,[]⟩)):=by
 simp [List.getD,hk]
theorem zi4 {x:qp}:∀ y∈[z6 x],Pure y:=by
 intro y hy;simp only [List.mem_cons,List.not_mem_nil,or_false] at hy;subst hy;exact qav (qf5 x)
theorem qkq {l:qc} {i:Nat} {c:UInt8} (h:l[i]? = some c):l.getD i 0=c:=by simp [List.getD,h]
theorem zg0 {a b:qc}:∀ x∈[Sv a,Sv b],Pure x:=by
 intro x hx;simp only [List.mem_cons,List.not_mem_nil,or_false] at hx;rcases hx with rfl|rfl <;> exact q8 _
theorem zgz {a:List Fld}:∀ x∈[zp a],Pure x:=by
 intro x hx;simp only [List.mem_cons,List.not_mem_nil,or_false] at hx;subst hx;exact qa6 _
theorem q84 {b:List qp} {k:Nat} (hk:k<b.length):encF (b.take (k+1))=((encF (b.take k)++jx (b.getD k ⟨0,0,[]⟩))++[10])++x6 [32,32] (z7 (b.getD k ⟨0,0,[]⟩).fields):=by
 rw [List.take_succ_eq_append_getElem hk,qy7,qy8];have e:b.getD k ⟨0,0,[]⟩=b[k]:=by simp [List.getD,hk]
 rw [e];unfold jm;simp [List.append_assoc]
set_option maxHeartbeats 2000000 in
theorem qxj (b:List qp) (st:List AObj) (hB:∀ x∈b,EdB x) (he:eErr b = .no):qo E 38 [ku b] st fun r st'=>r=Sv (encF b)∧st'=st:=by
 refine ze (q8 _) (qr Tryz.func38 rfl (Nat.le_of_ble_eq_true rfl) ?_);have i6:(b.map z6).length=b.length:=by simp
 obtain⟨o6,hb40,hg⟩:=qbt he;repeat' (first|apply qm|apply qu|apply qg|apply qh|apply qi)
 refine ju (fun (k:Nat) s=>k≤b.length∧StE [(0,ku b),(3,Sv (encF (b.take k))),(4,Iv k)] st [] s) (fun k=>b.length - k) 0 ⟨by omega,qci ⟨rfl,rfl,rfl,trivial⟩ rfl⟩ ?_;rintro k _ ⟨hk,t,ext,rfl⟩;by_cases hc:k<b.length
 ·have hm:b.getD k ⟨0,0,[]⟩∈b:=by simp [List.getD,hc]
  have hxb:=hB _ hm;have hxg:=hg _ hm;have s4:=q84 hc;have t6:=qh5 (b.take k) (fun y hy=>hB y (List.mem_of_mem_take hy)) (fun y hy=>hg y (List.mem_of_mem_take hy));have c9:(b.map z6)[k]? = some (z6 (b.getD k ⟨0,0,[]⟩)):=q83 hc;generalize b.getD k ⟨0,0,[]⟩=x at hm hxb hxg s4 c9;obtain⟨i3,hfg⟩:=qeq hxg;have lw:=qnj x hxb.id1 hxb.id2;have hfo:=qeo x.fields hfg;have fc:=qj0 (z7 x.fields);have r6:(b.take k).length≤40:=by rw [List.length_take];omega
  repeat' (first|apply qm|apply qu|apply qg|apply qh|apply ql|apply qi|(apply qt;(iterate 3 exact rfl))|(apply qe;exact rfl;apply vj;exact cAo)|(apply ja;(iterate 4 exact rfl))|(apply zn;exact rfl;exact rfl;exact zb (by omega) (by omega))|(apply qh4;exact rfl;kernel_rfl)|apply qgg|(apply qiv;exact rfl;exact rfl;exact cOs)|(apply qe7;(iterate 3 exact rfl))|(apply qiw;(iterate 4 exact rfl))|apply qej|apply qmu|apply qw|(apply qbs (n:=k);(iterate 5 exact rfl);exact c9)|(refine qpw (args:=[z6 x]) qua Tryz.call69 rfl zi4 (q1r _) (fun _=>.v _) (qwq x _ hxb.id1 hxb.id2) ?_)|(refine qpw (args:=[zp x.fields]) qua Tryz.call71 rfl zgz (q1r _) (fun _=>.v _) (q65 x.fields _ (qzs i3 hfg)) ?_)|(refine qpw (args:=[Sv (z7 x.fields),Sv [32,32]]) qua Tryz.call70 rfl zg0 (q1r _) (fun _=>.v _) (q3c (z7 x.fields) [32,32] _ (by omega) (by decide)) ?_))
  exact⟨k+1,⟨by omega,y9 ⟨rfl,congrArg Sv s4.symm,rfl,trivial⟩ rfl⟩,by omega⟩
 ·have e:k=b.length:=by omega
  subst e;rw [List.take_length];repeat' (first|apply qm|apply qg|apply qh|apply ql|apply qi|(apply qt;(iterate 3 exact rfl))|(apply qe;exact rfl;apply wm;exact cAo)|(apply ja;(iterate 4 exact rfl))|apply jg|apply q6)
  exact qn rfl (zh rfl) ⟨rfl,yl _ _ _ _⟩
theorem q8u:∀ (ps:List qc) (acc b:List qp),(∀ x∈acc,EdB x)→decP ps acc=some b→∀ x∈b,EdB x
 | [],acc,b,h,e=>by
  rw [decP] at e
  cases e
  exact h
 |p::r,acc,b,h,e=>by
  rw [decP] at e;split at e
  ·simp at e
  ·rename_i k n hb
   split at e
   ·refine q8u r _ b (fun x hx=>?_) e
    rcases List.mem_append.1 hx with hx|hx
    ·exact h x hx
    ·obtain rfl:=List.mem_singleton.1 hx
     exact q81 (qt1 hb).1 (qt1 hb).2 (qpf _)
   ·simp at e
theorem q8t {text:qc} {b:List qp} (h:decF text=some b):∀ x∈b,EdB x:=by
 unfold decF at h;split at h
 ·simp at h
 ·split at h
  ·simp at h
  ·rename_i c hc
   split at h
   ·cases h
    exact q8u _ _ _ (by simp) hc
   ·simp at h
end Go.Proofs.YtapblfabkbdgcaaGreatDoor
namespace Go.Pl
open Go Go.Proofs Go.Proofs.YtapblfabkbdgcaaGreatDoor
def addF (out:List qp) (f:Fld):List qp:=match out.getLast? with
 |none=>out
 |some x=>out.dropLast++[⟨x.kind,x.id,x.fields++[f]⟩]
def yg (out:List qp) (b9:List qc):Option (List qp):=
 if b9=[] then some out else if (zq b9).2=0 then some (addF out (zq b9).1) else none
def tryR (l:qc) (e:Option (Int×Int)) (k:Int):Option (Int×Int):=
 if x4 k <+: l then match numZ (l.drop (x4 k).length) with
  |some n=>some (k,n)
  |none=>e
 else e
def begR (l:qc):Option (Int×Int):=tryR l (tryR l (tryR l none 1) 2) 3
def kh:List qc→List qp→List qc→Option (List qp)
 | [],out,b9=>yg out b9
 |l::r,out,b9=>
  match (if b9≠[]∧¬ [32,32,32] <+: l then (yg out b9).map fun o=>(o,([]:List qc)) else some (out,b9)) with
  |none=>none
  |some (o,h)=>
   if [32,32] <+: l then if o=[] then none else kh r o (h++[l.drop 2])
   else match begR l with
    |none=>none
    |some (k,n)=>if 40≤o.length then none else kh r (o++[⟨k,n,[]⟩]) h
theorem q7u (b:List qp) (k n:Int) (gs:List Fld) (f:Fld):addF (b++[⟨k,n,gs⟩]) f=b++[⟨k,n,gs++[f]⟩]:=by
 unfold addF;simp
def qq5 (b9:List qc) (pe:List Fld):Prop:=(b9=[]∧pe=[])∨∃ g,jt g∧b9=zk g∧pe=[g]
theorem qlc {b:List qp} {k n:Int} {gs pe:List Fld} {b9:List qc} (h:qq5 b9 pe):yg (b++[⟨k,n,gs⟩]) b9=some (b++[⟨k,n,gs++pe⟩]):=by
 unfold yg;rcases h with⟨rfl,rfl⟩ | ⟨g,hg,rfl,rfl⟩
 ·simp
 ·have hu:=qmi hg
  rw [if_neg (by simp [zk]),hu,if_pos rfl,q7u]
theorem ind3 {s:qc} (h:[32] <+: s):[32,32,32] <+: [32,32]++s:=by
 obtain⟨t,rfl⟩:=h;exact⟨t,rfl⟩
theorem zcp {s:qc} (h:¬ [32] <+: s):¬ [32,32,32] <+: [32,32]++s:=fun ⟨t,ht⟩=>h ⟨t,by simpa using ht⟩
theorem za0 {s:qc} {r:List qc} {out:List qp} {b9:List qc} (hs:[32] <+: s) (b8:out≠[]):kh (([32,32]++s)::r) out b9=kh r out (b9++[s]):=by
 rw [kh,if_neg (fun h=>h.2 (ind3 hs))];simp only;rw [if_pos (List.prefix_append _ _),if_neg b8];rfl
theorem qwu:∀ (m:List qc) {r:List qc} {out:List qp} {b9:List qc},(∀ s∈m,[32] <+: s)→out≠[]→kh (m.map (fun s=>[32,32]++s)++r) out b9=kh r out (b9++m)
 | [],r,out,b9,_,_=>by simp
 |s::m,r,out,b9,h,b8=>by
  rw [List.map_cons,List.cons_append,za0 (h s (by simp)) b8,qwu m (fun x hx=>h x (by simp [hx])) b8];simp
theorem zaz {s:qc} {r:List qc} {b:List qp} {k n:Int} {gs pe:List Fld} {b9:List qc} (hs:¬ [32] <+: s) (hh:qq5 b9 pe):kh (([32,32]++s)::r) (b++[⟨k,n,gs⟩]) b9=kh r (b++[⟨k,n,gs++pe⟩]) [s]:=by
 rw [kh];have hi:=zcp hs
 have e:(if b9≠[]∧¬ [32,32,32] <+: [32,32]++s then (yg (b++[⟨k,n,gs⟩]) b9).map fun o=>(o,([]:List qc)) else some (b++[⟨k,n,gs⟩],b9))=some (b++[⟨k,n,gs++pe⟩],[]):=by
  by_cases h0:b9=[]
  ·rcases hh with⟨_,rfl⟩ | ⟨g,_,h1,_⟩
   ·rw [if_neg (fun h=>h.1 h0),h0];simp
   ·rw [h0] at h1;simp [zk] at h1
  ·rw [if_pos ⟨h0,hi⟩,qlc hh];rfl
 rw [e];simp only;rw [if_pos (List.prefix_append _ _),if_neg (by simp)];rfl
theorem qz2 {f:Fld} (h:jt f):∃ hd mr,zk f=hd::mr∧¬ [32] <+: hd∧∀ s∈mr,[32] <+: s:=by
 refine⟨_,_,rfl,?_,fun s hs=>?_⟩
 ·obtain⟨h1,_,h3,_⟩:=h.1
  rintro⟨t,ht⟩;apply h3
  cases hk:f.1 with
  |nil=>exact absurd hk h1
  |cons c l=>
   unfold jw at ht;rw [hk] at ht;have:=(List.cons.inj ht).1;rw [← this];simp [qdt,vv]
 ·obtain⟨x,_,rfl⟩:=List.mem_map.1 hs
  exact List.prefix_append _ _
def qx2 (R:List qc):Prop:=∀ l r,R=l::r→¬ [32,32] <+: l
theorem zg5 {R:List qc} {b:List qp} {k n:Int} {gs pe:List Fld} {b9:List qc} (hR:qx2 R) (hh:qq5 b9 pe):kh R (b++[⟨k,n,gs⟩]) b9=kh R (b++[⟨k,n,gs++pe⟩]) []:=by
 cases R with
 |nil=>
  rw [kh,kh,qlc hh]
  simp [yg]
 |cons l r=>
  have h2:=hR l r rfl;have h3:¬ [32,32,32] <+: l:=fun ⟨t,ht⟩=>h2 ⟨[32]++t,by rw [← ht];rfl⟩
  have e:(if b9≠[]∧¬ [32,32,32] <+: l then (yg (b++[⟨k,n,gs⟩]) b9).map fun o=>(o,([]:List qc)) else some (b++[⟨k,n,gs⟩],b9))=some (b++[⟨k,n,gs++pe⟩],[]):=by
   by_cases h0:b9=[]
   ·rcases hh with⟨_,rfl⟩ | ⟨g,_,h1,_⟩
    ·rw [if_neg (fun h=>h.1 h0),h0];simp
    ·rw [h0] at h1;simp [zk] at h1
   ·rw [if_pos ⟨h0,h3⟩,qlc hh];rfl
  rw [kh,e,kh,if_neg (fun h=>h.1 rfl)]
theorem qwt:∀ (fs:List Fld) {R:List qc} {b:List qp} {k n:Int} {gs pe:List Fld} {b9:List qc},qx2 R→(∀ f∈fs,jt f)→qq5 b9 pe →
  kh ((fs.flatMap zk).map (fun s=>[32,32]++s)++R) (b++[⟨k,n,gs⟩]) b9=kh R (b++[⟨k,n,gs++pe++fs⟩]) []
 | [],R,b,k,n,gs,pe,b9,hR,_,hh=>by
  rw [List.flatMap_nil,List.map_nil,List.nil_append,zg5 hR hh,List.append_nil]
 |f::fs,R,b,k,n,gs,pe,b9,hR,hf,hh=>by
  have pw:=hf f (by simp);obtain⟨hd,mr,hl,h1,h2⟩:=qz2 pw;rw [List.flatMap_cons,List.map_append,hl,List.map_cons,List.append_assoc,List.cons_append,zaz h1 hh,qwu mr h2 (by simp)];have e:[hd]++mr=zk f:=by rw [hl];rfl
  rw [e,qwt fs hR (fun x hx=>hf x (by simp [hx])) (.inr ⟨f,pw,rfl,rfl⟩)];simp
theorem q8j {x:qp} (hx:EncG x):begR (jx x)=some (x.kind,x.id):=by
 have hl:jx x=x4 x.kind++Lib.itoa x.id:=by
  unfold jx;rw [if_pos (by have:=hx.kind;omega)]
 have g8:∀ e,tryR (jx x) e x.kind=some (x.kind,x.id):=fun e=>by
  unfold tryR;rw [hl,if_pos (List.prefix_append _ _),List.drop_left,qnp hx.id1 hx.id2]
 have g9:∀ (j:Int) e,(j=1∨j=2∨j=3)→j≠x.kind→tryR (jx x) e j=e:=fun j e hj b8=>by
  unfold tryR;rw [hl,if_neg (qsb hj hx.kind b8)]
 unfold begR;rcases hx.kind with h|h|h
 ·rw [h] at g8 g9 ⊢
  rw [g8,g9 2 _ (by simp) (by decide),g9 3 _ (by simp) (by decide)]
 ·rw [h] at g8 g9 ⊢
  rw [g8,g9 3 _ (by simp) (by decide)]
 ·rw [h] at g8 g9 ⊢
  rw [g8]
theorem qwp:∀ (r b:List qp),(∀ x∈r,EncG x)→b.length+r.length≤40→kh (encL r) b []=some (b++r)
 | [],b,_,_=>by
  simp [encL,kh,yg]
 |x::r,b,h,hl=>by
  have hx:=h x (by simp);simp only [List.length_cons] at hl;have e:encL (x::r)=jx x::(qam x++encL r):=by simp [encL]
  have hR:qx2 (encL r):=fun l t et=>by
   cases r with
   |nil=>simp [encL] at et
   |cons y r=>
    have e:encL (y::r)=jx y::(qam y++encL r):=by simp [encL]
    rw [e] at et;rw [← (List.cons.inj et).1];exact qj6 (h y (by simp)).kind
  rw [e,kh,if_neg (fun h=>h.1 rfl)];simp only;rw [if_neg (qj6 hx.kind),q8j hx];simp only;rw [if_neg (by omega)];unfold qam;rw [qwt x.fields hR hx.good (.inl ⟨rfl,rfl⟩),qwp r _ (fun y hy=>h y (by simp [hy])) (by simp;omega)];simp
def OutG (out:List qp) (m:Nat):Prop:=∀ x∈out,(∀ f∈x.fields,jt f)∧x.fields.length≤m∧-9223372036854775808≤x.id∧x.id≤9223372036854775807
theorem OutG.mono {out:List qp} {m m':Nat} (h:OutG out m) (hm:m≤m'):OutG out m':=fun x hx=>⟨(h x hx).1,by have:=(h x hx).2.1;omega,(h x hx).2.2⟩
theorem qx4 {out:List qp} {f:Fld} {m:Nat} (h:OutG out m) (hf:jt f):OutG (addF out f) (m+1):=by
 unfold addF
 cases hl:out.getLast? with
 |none=>exact h.mono (by omega)
 |some y=>
  have hy:=h y (List.mem_of_getLast? hl);intro x hx;rcases List.mem_append.1 hx with hx|hx
  ·exact h.mono (by omega) x ((List.dropLast_sublist out).subset hx)
  ·obtain rfl:=List.mem_singleton.1 hx
   refine⟨fun g hg=>?_,by simp;exact hy.2.1,hy.2.2⟩;rcases List.mem_append.1 hg with hg|hg
   ·exact hy.1 g hg
   ·obtain rfl:=List.mem_singleton.1 hg
    exact hf
theorem qzk {out o:List qp} {b9:List qc} {m:Nat} (h:OutG out m) (e:yg out b9=some o):OutG o (m+1):=by
 unfold yg at e;split at e
 ·cases e;exact h.mono (by omega)
 ·split at e
  ·rename_i hu
   cases e
   exact qx4 h (qgf hu)
  ·simp at e
theorem q1x {l:qc} {e:Option (Int×Int)} {j k n:Int} (he:∀ k n,e=some (k,n)→-9223372036854775808≤n∧n≤9223372036854775807) (h:tryR l e j=some (k,n)) : -9223372036854775808≤n∧n≤9223372036854775807:=by
 unfold tryR at h;split at h
 ·split at h
  ·rename_i v hv
   cases h
   exact (qnr hv).2
  ·exact he _ _ h
 ·exact he _ _ h
theorem q8i {l:qc} {k n:Int} (h:begR l=some (k,n)) : -9223372036854775808≤n∧n≤9223372036854775807:=
 q1x (fun _ _ h=>q1x (fun _ _ h=>q1x (fun _ _ h=>by simp at h) h) h) h
theorem quk:∀ (L:List qc) {out b:List qp} {b9:List qc} {m:Nat},OutG out m→kh L out b9=some b→OutG b (m+L.length+1)
 | [],out,b,b9,m,h,e=>by
  rw [kh] at e
  exact (qzk h e).mono (by simp)
 |l::r,out,b,b9,m,h,e=>by
  rw [kh] at e;split at e
  ·simp at e
  ·rename_i o hd he
   have ho:OutG o (m+1):=by
    split at he
    ·obtain⟨o',h1,h2⟩:=Option.map_eq_some_iff.1 he
     cases h2
     exact qzk h h1
    ·cases he;exact h.mono (by omega)
   split at e
   ·split at e
    ·simp at e
    ·exact (quk r ho e).mono (by simp;omega)
   ·split at e
    ·simp at e
    ·rename_i k n hb
     split at e
     ·simp at e
     ·refine (quk r (m:=m+1) (fun x hx=>?_) e).mono (by simp;omega)
      rcases List.mem_append.1 hx with hx|hx
      ·exact ho x hx
      ·obtain rfl:=List.mem_singleton.1 hx
       exact⟨by simp,by simp,q8i hb⟩
theorem q9y {b:List qp} {m:Nat} (h:OutG b m) (hm:m<9223372036854775808):∀ x∈b,EdB x:=fun x hx=>by
 obtain⟨h1,h2,h3,h4⟩:=h x hx;exact⟨fun f hf=>by have:=(h1 f hf).1.2.1;omega,by omega,h3,h4⟩
def qby (text:qc):Option (List qp):=if 50000<text.length then none else match kh ((lns text).map fun x=>x.text) [] [] with
 |none=>none
 |some b=>if eErr b = .no∧encF b=text then some b else none
theorem zcy (l:qc):(lns l).map (fun x=>x.text)=(zj l).map Prod.fst:=by
 rw [← qwa,List.map_map];rfl
theorem zaf (text:qc):qby text=decF text:=by
 by_cases cr:50000<text.length
 ·unfold qby decF
  rw [if_pos cr,if_pos cr]
 have hn:=qet _ text 0 0 (Nat.le_refl _)
 cases hd:decF text with
 |some b=>
  obtain⟨he,ht,_⟩:=qd9 hd;obtain⟨h1,lg,hg⟩:=qbt he;have hB:=q8t hd;have hG:∀ y∈b,EncG y:=fun y hy=>qt7 (hg y hy) (hB y hy)
  have hl:(lns text).map (fun x=>x.text)=encL b:=by
   rw [zcy,← ht,qvt hG,qbv,List.map_map]
   ·simp [Function.comp_def]
   ·intro s hs
    obtain⟨x,hx,hs⟩:=List.mem_flatMap.1 hs;rcases List.mem_cons.1 hs with rfl|hs
    ·exact qb1 x
    ·exact qva (hG x hx).good s hs
  unfold qby;rw [if_neg cr,hl,qwp b [] hG (by simp;omega)];simp only [List.nil_append]
  rw [if_pos ⟨he,ht⟩]
 |none=>
  unfold qby;rw [if_neg cr]
  cases hr:kh ((lns text).map fun x=>x.text) [] [] with
  |none=>rfl
  |some b=>
   simp only;split
   ·rename_i hc
    have hB:=q9y (quk _ (m:=0) (by intro x hx;simp at hx) hr) (by
     have:(lns text).length≤text.length:=hn;simp
     omega)
    have:=zff hc.1 hB (by rw [hc.2];omega);rw [hc.2,hd] at this;simp at this
   ·rfl
end Go.Pl
namespace Go.Proofs.YtapblfabkbdgcaaGreatDoor
open Go Go.Av Go.RowKit Go.Proofs Go.Pl
def qbx:Option (List qp)→AV
 |none=>.tu [ku [],Bv false]
 |some b=>.tu [ku b,Bv true]
end Go.Proofs.YtapblfabkbdgcaaGreatDoor
namespace Go.Pl
open Go Go.Proofs
def vg:List (qc×Bool)→List qc
 | []=>[]
 |(t,_)::r=>if qs t=3 then t::vg r else []
def ka (prev:Bool) (t:qc) (e:Bool) (r:List (qc×Bool)) (fields:Nat) (records:Int):Int:=
 if qs t=5∨(qs t=3∧prev=false)∨e=false then 2
 else if qs t≠4 then 0
 else if (zq (t::vg r)).2≠0 then (zq (t::vg r)).2
 else if 40≤fields∨(fields=0∧400≤records) then 11 else 0
theorem qpd {α : Type} {l:List α} {x : α} (h:l.getLast? = some x):l.dropLast++[x]=l:=by
 have b8:l≠[]:=fun e=>by subst e;simp at h
 rw [List.getLast?_eq_some_getLast b8] at h;obtain rfl:=Option.some.inj h;exact List.dropLast_concat_getLast b8
def outR (now:za) (out:List za):List za:=if now.raw=[] then out else out++[now]
def refL:Nat→List (qc×Bool)→Bool→za→Int→List za→Option (Int×Int)×List za
 | _,[],_,now,_,out=>(none,outR now out)
 |i,(t,e)::r,prev,now,rec,out=>
  if ka prev t e r now.fields.length rec≠0 then (some ((i:Int),ka prev t e r now.fields.length rec),[])
  else if qs t=1 then refL (i+1) r false ⟨2,[],[]⟩ rec (outR now out++[⟨1,t++[10],[]⟩])
  else if qs t=4 then refL (i+1) r true ⟨3,now.raw++t++[10],now.fields++[(zq (t::vg r)).1]⟩ (if now.kind=2 then rec+1 else rec) out
  else refL (i+1) r (decide (qs t=3)) ⟨now.kind,now.raw++t++[10],now.fields⟩ rec out
def qxm:List (qc×Bool)→Prop
 | []=>True
 |(_,e)::r=>(e=false→r=[])∧qxm r
theorem qpl:∀ (n:Nat) (l:qc),l.length≤n→qxm (zj l)
 | 0,l,h=>by
  have:l=[]:=List.length_eq_zero_iff.1 (by omega);subst this;rw [kv]
  trivial
 |n+1,l,h=>by
  by_cases hl:l=[]
  ·subst hl
   rw [kv];trivial
  ·rw [vw hl]
   refine⟨fun he=>?_,qpl n _ (by have:=xi (c:=10) hl;omega)⟩;have f9:10∉l:=by simpa using he
   have:past 10 l=[]:=by
    unfold past;rw [qcc f9];exact List.drop_eq_nil_of_le (by omega)
   rw [this,kv]
def qdu (ls:List qc) (full:Bool):Int:=if (zq ls).2≠0 then (zq ls).2 else if full=true then 11 else 0
theorem qhd {p:PSt} (h:p.lines≠[]) (hc:qdu p.lines p.full≠0):(jn p).1=some (p.frm,qdu p.lines p.full):=by
 unfold qdu at *;unfold jn;rw [if_neg h];by_cases h1:(zq p.lines).2≠0
 ·rw [if_pos h1,if_pos h1]
 ·rw [if_neg h1] at hc ⊢
  rw [if_neg h1];by_cases h2:p.full=true
  ·rw [if_pos h2,if_pos h2]
  ·rw [if_neg h2] at hc
   exact absurd rfl hc
theorem qvy {p:PSt} (h:p.lines=[]∨qdu p.lines p.full=0):jn p=(none,{ p with lines:=[],fields:=p.fields++(if p.lines=[] then [] else [(zq p.lines).1]) }):=by
 unfold jn;by_cases h0:p.lines=[]
 ·rw [if_pos h0,if_pos h0]
  obtain⟨a,b,c,d,e,f,g⟩:=p;simp only at h0;subst h0;simp
 ·rw [if_neg h0,if_neg h0]
  have h:=h.resolve_left h0;unfold qdu at h;by_cases h1:(zq p.lines).2≠0
  ·rw [if_pos h1] at h
   exact absurd h h1
  ·rw [if_neg h1] at h ⊢
   by_cases h2:p.full=true
   ·rw [if_pos h2] at h
    simp at h
   ·rw [if_neg h2]
theorem qqy {p:PSt} {no:Int} {t:qc} {e:Bool} {x:Int×Int} (h:(jh p no t e (qs t)).1=some x):(wb p no t e).1=some x:=by
 unfold wb;rw [h]
theorem qqz {p q:PSt} {no:Int} {t:qc} {e:Bool} (h:jh p no t e (qs t)=(none,q)) (hc:qs t=5∨e=false):(wb p no t e).1=some (no,2):=by
 unfold wb;rw [h];simp only;rw [if_pos hc]
theorem qkx {p q:PSt} {no:Int} {t:qc} (h:jh p no t true (qs t)=(none,q)) (hc:qs t≠5):wb p no t true =
  if qs t=1 then (none,{ q with items:=q.items++[⟨1,t++[10],[]⟩] }) else if qs t=4 then (none,{ ki q no t with block:=q.block++[t] }) else (none,{ q with block:=q.block++[t] }):=by
 unfold wb;rw [h];simp only;rw [if_neg (by simp [hc])]
theorem qey {k:Nat} {t:qc} {e:Bool} {r:List (qc×Bool)} {p:PSt} {x:Int×Int} (h:(wb p k t e).1=some x):(runL k ((t,e)::r) p).1=some x:=by
 rw [runL,h]
theorem qgs {k:Nat} {t:qc} {e:Bool} {r:List (qc×Bool)} {p q:PSt} (h:wb p k t e=(none,q)):runL k ((t,e)::r) p=runL (k+1) r q:=by
 rw [runL,h]
theorem qq9 {p:PSt} {no:Int} {t:qc} (hk:qs t=3) (hl:p.lines≠[]):jh p no t true (qs t)=(none,{ p with lines:=p.lines++[t] }):=by
 unfold jh;rw [if_pos hk,if_neg hl,if_pos rfl]
theorem qq8 {p:PSt} {no:Int} {t:qc} (hk:qs t=3) (hl:p.lines≠[]):jh p no t false (qs t)=jn { p with lines:=p.lines++[t] }:=by
 unfold jh;rw [if_pos hk,if_neg hl,if_neg (by simp)]
theorem qf2 {p:PSt} {no:Int} {t:qc} {e:Bool} (hk:qs t≠3) (h1:qs t≠1):jh p no t e (qs t)=jn p:=by
 unfold jh;rw [if_neg hk,if_neg h1]
theorem qjs {p:PSt} {no:Int} {t:qc} {e:Bool} (h1:qs t=1):jh p no t e (qs t)=endP p:=by
 unfold jh;rw [if_neg (by omega),if_pos h1]
theorem qsn {t:qc} {e:Bool} {r:List (qc×Bool)} (h:qs t≠3):vg ((t,e)::r)=[]:=by
 rw [vg,if_neg h]
theorem qj7 {t:qc} {e:Bool} {r:List (qc×Bool)} (h:qs t=3):vg ((t,e)::r)=t::vg r:=by
 rw [vg,if_pos h]
theorem qy9 {p:PSt} {x:Int×Int} (h:(jn p).1=some x):(endP p).1=some x:=by
 unfold endP;rw [h]
theorem qt8 {p q:PSt} (h:jn p=(none,q)):endP p=(none,xq q):=by
 unfold endP;rw [h]
theorem q0t:∀ (r:List (qc×Bool)) (p:PSt) (k:Nat) (c:Int),qxm r→p.lines≠[]→qdu (p.lines++vg r) p.full=c→c≠0→(runL k r p).1=some (p.frm,c)
 | [],p,k,c,_,hl,hc,h0=>by
  rw [vg,List.append_nil] at hc;rw [runL];subst hc
  exact qy9 (qhd hl h0)
 |(t,e)::r,p,k,c,hE,hl,hc,h0=>by
  by_cases h3:qs t=3
  ·rw [qj7 h3] at hc
   cases e with
   |true=>
    have ht:=qkx (qq9 (no:=k) h3 hl) (by omega);rw [if_neg (by omega),if_neg (by omega)] at ht;rw [qgs ht]
    exact q0t r _ (k+1) c hE.2 (by simp) (by simpa using hc) h0
   |false=>
    have hr:=hE.1 rfl;subst hr;refine qey (qqy ?_);rw [qq8 h3 hl];have lq:qdu (p.lines++[t]) p.full=c:=hc;have:=qhd (p:={ p with lines:=p.lines++[t] }) (by simp) (by simp only;rw [lq];exact h0);simp only at this;rw [this,lq]
  ·rw [qsn h3,List.append_nil] at hc
   subst hc;refine qey (qqy ?_);by_cases h1:qs t=1
   ·rw [qjs h1]
    exact qy9 (qhd hl h0)
   ·rw [qf2 h3 h1]
    exact qhd hl h0
structure Sim (r:List (qc×Bool)) (p:PSt) (prev:Bool) (now:za) (rec:Int) (out:List za):Prop where
 hprev:prev=decide (p.lines≠[])
 hok:p.lines=[]∨qdu (p.lines++vg r) p.full=0
 hraw:now.raw=zf p.block
 hfields:now.fields=p.fields++(if p.lines=[] then [] else [(zq (p.lines++vg r)).1])
 hkind:now.kind=if now.fields=[] then 2 else 3
 hrec:rec=p.records+if now.fields=[] then 0 else 1
 hout:out=p.items
 hempty:p.block=[]→p.lines=[]∧p.fields=[]
 b1:now.fields.length≤40
 b2:rec≤400
theorem za6 (b:List qc):zf b=[]↔b=[]:=by
 cases b with
 |nil=>simp [zf]
 |cons x r=>simp [zf]
theorem ql7 (b:List qc) (t:qc):zf (b++[t])=zf b++t++[10]:=by simp [zf]
theorem Sim.flush {r:List (qc×Bool)} {p:PSt} {prev:Bool} {now:za} {rec:Int} {out:List za} (h:Sim r p prev now rec out) (hm:vg r=[]):jn p=(none,{ p with lines:=[],fields:=now.fields }):=by
 have h1:=h.hok;have h2:=h.hfields;rw [hm,List.append_nil] at h1 h2;rw [qvy h1,h2]
theorem Sim.close {r:List (qc×Bool)} {p:PSt} {prev:Bool} {now:za} {rec:Int} {out:List za} (h:Sim r p prev now rec out) (hm:vg r=[]):xq { p with lines:=[],fields:=now.fields }={ p with lines:=[],fields:=[],block:=[],items:=outR now out,records:=rec }:=by
 have hk:=h.hkind;have hr:=h.hrec;have hw:=h.hraw;have ho:=h.hout;unfold xq outR;simp only;by_cases hb:p.block=[]
 ·obtain⟨e1,e2⟩:=h.hempty hb
  have hf:now.fields=[]:=by rw [h.hfields,e1,e2];simp
  rw [if_pos hb,if_pos (by rw [hw,hb];rfl),ho,hr,hf];simp
 ·have b8:¬ now.raw=[]:=by rw [hw,za6];exact hb
  rw [if_neg hb,if_neg b8,ho,hr,← hw];obtain⟨nk,nr,nf⟩:=now;simp only at hk b8 ⊢;by_cases hf:nf=[]
  ·rw [if_pos hf] at hk
   simp [hf,hk,b8]
  ·rw [if_neg hf] at hk
   simp [hf,hk,b8]
theorem qkt:∀ (r:List (qc×Bool)) (k:Nat) (p:PSt) (prev:Bool) (now:za) (rec:Int) (out:List za),qxm r→Sim r p prev now rec out →
  refL k r prev now rec out=match (runL k r p).1 with
   |some e=>(some e,[])
   |none=>(none,(runL k r p).2.items)
 | [],k,p,prev,now,rec,out,_,h=>by
  rw [runL,qt8 (h.flush rfl),h.close rfl,refL]
 |(t,e)::r,k,p,prev,now,rec,out,hE,h=>by
  rw [refL];by_cases h3:qs t=3
  ·by_cases hl:p.lines=[]
   ·have hp:prev=false:=by rw [h.hprev];simp [hl]
    have hw:ka prev t e r now.fields.length rec=2:=by
     unfold ka;rw [if_pos (.inr (.inl ⟨h3,hp⟩))]
    rw [hw,if_pos (by decide),qey (x:=((k:Int),2)) (qqy (by unfold jh;rw [if_pos h3,if_pos hl]))]
   ·cases e with
    |true=>
     have hp:prev=true:=by rw [h.hprev];simp [hl]
     have hw:ka prev t true r now.fields.length rec=0:=by
      unfold ka;rw [if_neg (by simp [hp];omega),if_pos (by omega)]
     have ht:=qkx (qq9 (no:=k) h3 hl) (by omega);rw [if_neg (by omega),if_neg (by omega)] at ht;rw [hw,if_neg (by simp),if_neg (by omega),if_neg (by omega),qgs ht];have hm:=qj7 (e:=true) (r:=r) h3;have hok:=h.hok.resolve_left hl;have hfs:=h.hfields;rw [if_neg hl,hm] at hfs;rw [hm] at hok
     refine qkt r (k+1) _ _ _ _ _ hE.2 ⟨by simp [h3],.inr (by simpa using hok),by rw [ql7,← h.hraw],by simp [hfs],h.hkind,h.hrec,h.hout,by simp,h.b1,h.b2⟩
    |false=>
     have hr:=hE.1 rfl;subst hr
     have hw:ka prev t false [] now.fields.length rec=2:=by
      unfold ka;rw [if_pos (.inr (.inr rfl))]
     have hok:=h.hok.resolve_left hl;rw [qj7 h3] at hok;have hf:=qvy (p:={ p with lines:=p.lines++[t] }) (.inr hok);rw [hw,if_pos (by decide),qey (x:=((k:Int),2)) (qqz ((qq8 h3 hl).trans hf) (.inr rfl))]
  ·have hm:=qsn (e:=e) (r:=r) h3
   have hf:=h.flush hm;have hc:=h.close hm;by_cases pm:qs t=5∨e=false
   ·have hw:ka prev t e r now.fields.length rec=2:=by
     unfold ka;rw [if_pos (by rcases pm with h|h;exact .inl h;exact .inr (.inr h))]
    rw [hw,if_pos (by decide)];by_cases h1:qs t=1
    ·rw [qey (x:=((k:Int),2)) (qqz ((qjs h1).trans (qt8 hf)) pm)]
    ·rw [qey (x:=((k:Int),2)) (qqz ((qf2 h3 h1).trans hf) pm)]
   ·have he:e=true:=by
     cases e with
     |true=>rfl
     |false=>exact absurd (.inr rfl) pm
    have h5:qs t≠5:=fun h=>pm (.inl h);subst he;by_cases h1:qs t=1
    ·have hw:ka prev t true r now.fields.length rec=0:=by
      unfold ka;rw [if_neg (by simp [h3,h5]),if_pos (by omega)]
     have ht:=qkx ((qjs (no:=k) h1).trans (qt8 hf)) h5;rw [if_pos h1,hc] at ht;rw [hw,if_neg (by simp),if_pos h1,qgs ht];exact qkt r (k+1) _ _ _ _ _ hE.2 ⟨by simp,.inl rfl,rfl,by simp,by simp,by simp,rfl,by simp,by simp,h.b2⟩
    ·by_cases h4:qs t=4
     ·have ht:=qkx ((qf2 (no:=k) h3 h1).trans hf) h5
      rw [if_neg h1,if_pos h4] at ht;rw [qgs ht];have o6:=h.b1;have r8:=h.b2;have hrec:=h.hrec
      have nv:(40≤now.fields.length∨(now.fields.length=0∧400≤rec))↔(now.fields.length=40∨(now.fields.length=0∧p.records=400)):=by
       by_cases hz:now.fields=[]
       ·rw [if_pos hz] at hrec
        simp only [hz,List.length_nil];constructor
        ·rintro (h'|h')
         ·exact absurd h' (by decide)
         ·exact .inr ⟨trivial,by omega⟩
        ·rintro (h'|h')
         ·exact absurd h' (by decide)
         ·exact .inr ⟨trivial,by omega⟩
       ·have:now.fields.length≠0:=fun h=>hz (List.length_eq_zero_iff.1 h)
        constructor
        ·rintro (h'|h')
         ·exact .inl (by omega)
         ·exact absurd h'.1 this
        ·rintro (h'|h')
         ·exact .inl (by omega)
         ·exact absurd h'.1 this
      have hw:ka prev t true r now.fields.length rec=qdu (t::vg r) (decide (now.fields.length=40∨(now.fields.length=0∧p.records=400))):=by
       unfold ka qdu;rw [if_neg (by simp [h3,h5]),if_neg (by omega)];by_cases hu:(zq (t::vg r)).2≠0
       ·rw [if_pos hu,if_pos hu]
       ·rw [if_neg hu,if_neg hu]
        by_cases hx:40≤now.fields.length∨(now.fields.length=0∧400≤rec)
        ·rw [if_pos hx,if_pos (decide_eq_true (nv.1 hx))]
        ·rw [if_neg hx,if_neg (by simpa using fun h=>hx (nv.2 h))]
      by_cases hw0:ka prev t true r now.fields.length rec=0
      ·rw [if_neg (by simp [hw0]),if_neg h1,if_pos h4]
       have hx:¬ (40≤now.fields.length∨(now.fields.length=0∧400≤rec)):=fun hx=>by
        unfold ka at hw0;rw [if_neg (by simp [h3,h5]),if_neg (by omega)] at hw0;by_cases hu:(zq (t::vg r)).2≠0
        ·rw [if_pos hu] at hw0;exact hu hw0
        ·rw [if_neg hu,if_pos hx] at hw0;simp at hw0
       rw [hw] at hw0;refine qkt r (k+1) _ _ _ _ _ hE.2 ⟨by simp [ki],.inr hw0,by simp only [ki];rw [ql7,← h.hraw],by simp [ki],by simp,?_,h.hout,by simp [ki],by simp;omega,?_⟩
       ·have lv:=h.hkind
        simp only [ki];by_cases hz:now.fields=[]
        ·rw [if_pos hz] at hrec lv
         rw [lv];simp;omega
        ·rw [if_neg hz] at hrec lv
         rw [lv];simp;omega
       ·rw [h.hkind]
        by_cases hz:now.fields=[]
        ·have:now.fields.length=0:=by rw [hz];rfl
         rw [if_pos hz,if_pos rfl];omega
        ·rw [if_neg hz,if_neg (by decide)]
         exact r8
      ·rw [if_pos hw0]
       have:=q0t r { ki { p with lines:=[],fields:=now.fields } k t with block:=p.block++[t] } (k+1) (ka prev t true r now.fields.length rec) hE.2 (by simp [ki]) hw.symm hw0;simp only [ki] at this ⊢;rw [this]
     ·have hw:ka prev t true r now.fields.length rec=0:=by
       unfold ka;rw [if_neg (by simp [h3,h5]),if_pos h4]
      have ht:=qkx ((qf2 (no:=k) h3 h1).trans hf) h5;rw [if_neg h1,if_neg h4] at ht;rw [hw,if_neg (by simp),if_neg h1,if_neg h4,qgs ht];exact qkt r (k+1) _ _ _ _ _ hE.2 ⟨by simp [h3],.inl rfl,by rw [ql7,← h.hraw],by simp,h.hkind,h.hrec,h.hout,by simp,h.b1,h.b2⟩
theorem qgc (text:qc):refL 0 (zj text) false ⟨2,[],[]⟩ 0 []=jj text:=by
 unfold jj;exact qkt (zj text) 0 p0 false ⟨2,[],[]⟩ 0 [] (qpl _ text (Nat.le_refl _)) ⟨by simp [p0],.inl rfl,rfl,by simp [p0],by simp,by simp [p0],rfl,by simp [p0],by simp,by omega⟩
end Go.Pl
namespace Go.Pl
open Go Go.Proofs Go.Proofs.YtapblfabkbdgcaaGreatDoor
def genL:qc:=[35,37,103,101,110,32]
def qco (n:Int):qc:=genL++Lib.itoa n++[10,10]
def qfb (n:Int):Prop:=1≤n∧n≤2147483648
instance (n:Int):Decidable (qfb n):=inferInstanceAs (Decidable (_∧_))
def qbp (text:qc):Int×qc:=
 if genL <+: text then
  match numZ (upto 10 (text.drop 6)) with
  |some n=>if qfb n∧[10,10] <+: text.drop (6+(upto 10 (text.drop 6)).length) then (n,text.drop (8+(upto 10 (text.drop 6)).length)) else (0,text)
  |none=>(0,text)
 else (0,text)
theorem qsh (v:Int):(10:UInt8)∉Lib.itoa v:=by
 intro h;by_cases hv:v<0
 ·rw [qec hv] at h
  rcases List.mem_cons.1 h with h|h
  ·simp at h
  ·have:=wn _ _ (Nat.le_refl _) _ h
   simp at this
 ·rw [qed (by omega)] at h
  have:=wn _ _ (Nat.le_refl _) _ h;simp at this
theorem qz1 (n:Int) (r:qc):qco n++r=genL++(Lib.itoa n++10::10::r):=by simp [qco]
theorem ql5 {n:Int} (h:qfb n) (r:qc):qbp (qco n++r)=(n,r):=by
 unfold qbp;have hd:(genL++(Lib.itoa n++10::10::r)).drop 6=Lib.itoa n++10::10::r:=by rw [show (6:Nat)=genL.length by rfl,List.drop_left]
 rw [qz1,if_pos (List.prefix_append _ _),hd,wj _ (qsh n),qnp (by have:=h.1;omega) (by have:=h.2;omega)];have e1:(genL++(Lib.itoa n++10::10::r)).drop (6+(Lib.itoa n).length)=10::10::r:=by rw [← List.drop_drop,hd,List.drop_left]
 have e2:(genL++(Lib.itoa n++10::10::r)).drop (8+(Lib.itoa n).length)=r:=by
  rw [show 8+(Lib.itoa n).length=(6+(Lib.itoa n).length)+2 by omega,← List.drop_drop,e1];rfl
 simp only;rw [e1,e2,if_pos ⟨h,r,rfl⟩]
theorem qwx {text:qc} (h:∀ n r,qfb n→text≠qco n++r):qbp text=(0,text):=by
 unfold qbp;split
 ·rename_i hp
  obtain⟨t,rfl⟩:=hp;have hd:(genL++t).drop 6=t:=by rw [show (6:Nat)=genL.length by rfl,List.drop_left]
  rw [hd];split
  ·rename_i n hn
   split
   ·rename_i hc
    obtain⟨hg,r,hr⟩:=hc;rw [← List.drop_drop,hd] at hr;obtain⟨he,_⟩:=qnr hn;refine absurd ?_ (h n r hg);rw [qz1,← he];congr 1
    conv=>lhs;rw [← List.take_append_drop (upto 10 t).length t,qjr,← hr]
    rfl
   ·rfl
  ·rfl
 ·rfl
theorem q3l (text:qc):(∃ n r,qfb n∧text=qco n++r∧qbp text=(n,r))∨((∀ n r,qfb n→text≠qco n++r)∧qbp text=(0,text)):=by
 by_cases h:∃ n r,qfb n∧text=qco n++r
 ·obtain⟨n,r,hg,rfl⟩:=h
  exact .inl ⟨n,r,hg,rfl,ql5 hg r⟩
 ·have h':∀ n r,qfb n→text≠qco n++r:=fun n r hg e=>h ⟨n,r,hg,e⟩
  exact .inr ⟨h',qwx h'⟩
def qb9 (n:Int):qc:=if qfb n then qco n else []
theorem q3m (text:qc):text=qb9 (qbp text).1++(qbp text).2∧((qbp text).1=0∨qfb (qbp text).1):=by
 rcases q3l text with⟨n,r,hg,he,ht⟩ | ⟨_,ht⟩
 ·rw [ht]
  simp only;unfold qb9;rw [if_pos hg];exact⟨he,.inr hg⟩
 ·rw [ht]
  exact⟨rfl,.inl rfl⟩
def begF (l:qc):Bool:=decide (l.head? = some 37∧qs l=5)
def q8l (n:Nat) (l:qc):Nat:=if h:l=[] then n else if begF (upto 10 l)=true then n - l.length else q8l n (past 10 l)
 termination_by l.length
 decreasing_by exact xi h
theorem qhk:∀ (r:List (qc×Bool)) (k:Nat) (prev:Bool) (now:za) (rec:Int) (out:List za),(refL k r prev now rec out).1=none→∀ x∈r,qs x.1≠5∧x.2=true
 | [],_,_,_,_,_,_=>by simp
 |(t,e)::r,k,prev,now,rec,out,h=>by
  rw [refL] at h;split at h
  ·simp at h
  ·rename_i hw
   have hx:qs t≠5∧e=true:=by
    unfold ka at hw;split at hw
    ·simp at hw
    ·rename_i hc
     exact⟨fun h5=>hc (.inl h5),by cases e with|true=>rfl|false=>exact absurd (.inr (.inr rfl)) hc⟩
   have hr:∀ x∈r,qs x.1≠5∧x.2=true:=by
    split at h
    ·exact qhk r _ _ _ _ _ h
    ·split at h
     ·exact qhk r _ _ _ _ _ h
     ·exact qhk r _ _ _ _ _ h
   intro x e7;rcases List.mem_cons.1 e7 with rfl|e7
   ·exact hx
   ·exact hr x e7
theorem q25 {text:qc} (h:(jj text).1=none):∀ x∈zj text,begF x.1=false∧x.2=true:=fun x hx=>by
 rw [← qgc] at h;obtain⟨h1,h2⟩:=qhk _ _ _ _ _ _ h x hx;exact⟨by simp [begF,h1],h2⟩
theorem qiz {n:Nat} {fig l:qc} (hf:qbu fig) (h:l <+: yz n fig) (b8:l≠[]):begF l=true:=by
 have f9:10∉l:=qui h (qfc n hf)
 have h58:(58:UInt8)∉l:=qui h fun h'=>by
  unfold yz at h';rcases List.mem_append.1 h' with h'|h'
  ·revert h';decide
  ·rcases List.mem_append.1 h' with h'|h'
   ·exact qss n (by decide) h'
   ·rcases List.mem_cons.1 h' with h'|h'
    ·simp at h'
    ·exact qnd hf (by decide) h'
 obtain⟨c,q,rfl⟩:=List.exists_cons_of_ne_nil b8
 have hc:c=37:=by
  obtain⟨t,ht⟩:=h;unfold yz wv at ht;exact (List.cons.inj ht).1
 subst hc
 have hk:=qpk f9 (fun hb=>by
  have:=hb 37 (by simp);revert this
  decide)
 simp only [begF,List.head?_cons,true_and,decide_eq_true_eq];rw [hk.2];rw [if_neg (by simp),if_neg (by simp [vv]),if_neg (fun h=>h58 h.1)]
theorem q8k {n:Nat} {fig body l:qc} (hf:qbu fig) (h:l <+: recL n fig body) (b8:l≠[]):begF (upto 10 l)=true:=by
 rcases qwn (show l <+: yz n fig++10::(body++qhq n) from h) with h | ⟨r,rfl,hr⟩
 ·rw [qcc (qui h (qfc n hf))]
  exact qiz hf h b8
 ·cases r with
  |nil=>
   rw [List.append_nil,qcc (qfc n hf)]
   exact qiz hf (List.prefix_refl _) (by simp [yz,wv])
  |cons c r=>
   have:c=10:=by obtain⟨t,ht⟩:=hr;exact (List.cons.inj ht).1
   subst this;rw [wj _ (qfc n hf)];exact qiz hf (List.prefix_refl _) (by simp [yz,wv])
theorem ze4 {b:qc} (x:qc) (hg:qf7 b):begF (upto 10 (recF b++x))=true:=by
 rw [zg1];have hx:qbu (sumF b):=q2s (addP 0 b);unfold recL;rw [List.append_assoc,List.cons_append,wj _ (qfc _ hx)];exact qiz hx (List.prefix_refl _) (by simp [yz,wv])
theorem q9k:∀ (n:Nat) (l:qc) (k a:Nat),l.length≤n→∀ x∈ve k a l,x.text.length≤l.length
 |n,l,k,a,hn,x,hx=>by
  by_cases h:l=[]
  ·subst h;rw [qae] at hx;simp at hx
  ·have d6:=xi (c:=10) h
   cases n with
   |zero=>omega
   |succ n=>
    rw [qaj h] at hx;rcases List.mem_cons.1 hx with rfl|hx
    ·exact vk 10 l
    ·have:=q9k n (past 10 l) (k+1) (a+(upto 10 l).length+1) (by omega) x hx
     omega
theorem qx5 {out:List qp} {e:qp} {f:Fld} (h:out[out.length - 1]? = some e):addF out f=out.set (out.length - 1) ⟨e.kind,e.id,e.fields++[f]⟩:=by
 have hl:out.getLast? = some e:=by rw [List.getLast?_eq_getElem?];exact h
 have b8:out≠[]:=fun e0=>by subst e0;simp at hl
 unfold addF;rw [hl];have hd:=qpd hl;simp only;generalize hq:out.dropLast=q at hd;subst hd;simp
theorem qoy (out:List qp) (f:Fld):(addF out f).length=out.length:=by
 unfold addF
 cases h:out.getLast? with
 |none=>rfl
 |some x=>
  have b8:out≠[]:=fun e0=>by subst e0;simp at h
  have:=List.length_pos_iff.2 b8;simp;omega
def qxx (l:qc) (r:List qc) (o:List qp) (h:List qc):Option (List qp):=
 if [32,32] <+: l then if o=[] then none else kh r o (h++[l.drop 2])
 else match begR l with
  |none=>none
  |some (k,n)=>if 40≤o.length then none else kh r (o++[⟨k,n,[]⟩]) h
def qcu (b9:List qc):List qc→Bool
 | []=>decide (b9≠[])
 |l::_=>decide (b9≠[]∧¬ [32,32,32] <+: l)
def qmn (R:List qc) (out:List qp) (b9:List qc) (o:List qp) (h:List qc):Prop:=
 if qcu b9 R=true then yg out b9=some o∧h=[] else o=out∧h=b9
theorem q5d {l:qc} {r:List qc} {out o:List qp} {b9 h:List qc} (e:qmn (l::r) out b9 o h):kh (l::r) out b9=qxx l r o h∧(h=[]∨[32,32,32] <+: l):=by
 unfold qmn at e;rw [kh];by_cases hc:b9≠[]∧¬ [32,32,32] <+: l
 ·rw [if_pos (by simp [qcu,hc.1,hc.2])] at e
  rw [if_pos hc,e.1,e.2];exact⟨rfl,.inl rfl⟩
 ·rw [if_neg (by simpa [qcu] using hc)] at e
  rw [if_neg hc,e.1,e.2];refine⟨rfl,?_⟩;by_cases h0:b9=[]
  ·exact .inl h0
  ·exact .inr (Classical.byContradiction fun h=>hc ⟨h0,h⟩)
theorem qzl {R:List qc} {out:List qp} {b9:List qc} (h:qcu b9 R=true) (hu:(zq b9).2≠0):kh R out b9=none:=by
 cases R with
 |nil=>
  have h0:b9≠[]:=of_decide_eq_true h;rw [kh];unfold yg
  rw [if_neg h0,if_neg hu]
 |cons l q=>
  obtain⟨h0,hl⟩:b9≠[]∧¬ [32,32,32] <+: l:=of_decide_eq_true h;have hf:yg out b9=none:=by unfold yg;rw [if_neg h0,if_neg hu]
  rw [kh,if_pos ⟨h0,hl⟩,hf];rfl
theorem qzm {out:List qp} {b9:List qc} (h0:b9≠[]) (hu:(zq b9).2=0):yg out b9=some (addF out (zq b9).1):=by
 unfold yg;rw [if_neg h0,if_pos hu]
def qhr (l:qc):Nat→Option (Int×Int)
 | 0=>none
 |j+1=>tryR l (qhr l j) ((j:Int)+1)
theorem q3p (l:qc):qhr l 3=begR l:=rfl
end Go.Pl
namespace Go.Proofs.YtapblfabkbdgcaaGreatDoor
open Go Go.Av Go.RowKit Go.Proofs Go.Pl
theorem q06 (x:Option (List qp)):Pure (qbx x):=by
 rcases x with _|b
 ·exact j9 (qbh _) (q8 _)
 ·exact j9 (qbh _) (q8 _)
theorem q01 (l w:qc) (b:Bool) (h:decide (w <+: l)=b) (st:List AObj):qo E 77 [Sv l,Sv w] st fun r st'=>r=Bv b∧st'=st:=h▸qkb l w st
def qk2 (l:qc) (j:Nat) (a b:Int):Prop:=(a=0∧b=0∧qhr l j=none)∨(1≤a∧qhr l j=some (a,b))
set_option maxHeartbeats 8000000 in
theorem q3a (text:qc) (st:List AObj) (hl:text.length<1000000):qo E 44 [Sv text] st fun r st'=>r=qbx (decF text)∧st'=st:=by
 refine zw [.s text] (q06 _) Tryz.func44 rfl rfl (fun _=>rfl) rfl fun S0=>?_;rw [← zaf];by_cases cr:50000<text.length
 ·have hd:qby text=none:=if_pos cr
  rw [hd];unfold qbx;apply qf [];repeat' (first|apply And.intro|(intro h;try exact cDd)|exact cSd|apply qd []|refine exr ?_|refine qk ?_)
 have g7:qby text=match kh ((lns text).map fun x=>x.text) [] [] with
  |none=>none
  |some b=>if eErr b = .no∧encF b=text then some b else none:=if_neg cr
 have dn:=fun st=>qs5 text st (by omega);have hlm:((lns text).map lnA).length=(lns text).length:=by simp
 have hln:(lns text).length≤text.length:=qet _ text 0 0 (Nat.le_refl _);have lw:=q9k _ text 0 0 (Nat.le_refl _);have d6:∀ x∈lns text,x.text.length≤text.length:=lw;have h0i:Lib.itoa 0=[48]:=by rw [qed (by decide),Lib.decDigits_one (by decide)];rfl
 generalize lns text=L at *;clear lw;apply qf [];repeat' (first|apply And.intro|(intro h;try exact cDd)|exact⟨Tryz.call76⟩|refine cpe dn ?_|exact cSd|apply qd []|refine exr ?_|refine qk ?_)
 refine j5 (X:=Nat×List qp×List qc) (fun (k,out,b9)=>⟨[(0,.s text),(4,.tp 0),(5,.tp 1),(6,.a (lnsA L)),(7,.i k)],[(0,some (.own 3 55 (out.map z6))),(1,some (.tip 1 9 (b9.map fun x=>Sv x)))],2⟩)
  (fun (k,out,b9)=>OutG out k∧out.length≤40∧b9.length≤k∧k≤L.length+1∧(b9≠[]→out≠[])∧(∀ s∈b9,s.length<1000000) ∧
   ((k≤L.length∧kh ((L.map fun x=>x.text).drop k) out b9=kh (L.map fun x=>x.text) [] [])∨(k=L.length+1∧kh (L.map fun x=>x.text) [] []=some out)))
  (fun (k,out,b9)=>L.length+1 - k) (0,[],[]) ⟨by intro x hx;simp at hx,by simp,by simp,by omega,by simp,by simp,.inl ⟨by omega,rfl⟩⟩ ?_ ?_
 ·skip
  repeat' (first|apply And.intro|(intro h;try exact cDd)|exact cSd|apply qd []|refine exr ?_|refine qk ?_)
  all_goals (simp;done)
 ·rintro⟨k,out,b9⟩ ⟨hG,lg,hh,hk,b8,hhb,hR⟩
  have hmo:(out.map z6).length=out.length:=by simp
  have hmh:(b9.map fun x=>Sv x).length=b9.length:=by simp
  rcases hR with⟨hk,hR⟩ | ⟨rfl,hR⟩
  ·have bc:=fun st=>q1c b9 st ⟨by omega,hhb⟩
   unfold qdk at bc;by_cases i7:k=L.length
   ·-- the end: what is b9 is flushed
    rw [i7,List.drop_of_length_le (by simp)] at hR;by_cases h0:b9=[]
    ·subst h0
     rw [kh] at hR;unfold yg at hR;rw [if_pos rfl] at hR;apply qf [];repeat' (first|apply And.intro|(intro h;try exact cDd)|(refine Exists.intro (k+1,out,[]) ⟨⟨hG.mono (by omega),lg,by simp,by omega,by simp,by simp,.inr ⟨by omega,hR.symm⟩⟩,by simp only;omega,?_⟩)|exact cSd|apply qd []|refine exr ?_|refine qk ?_)
     all_goals (simp;done)
    ·have hz:0<b9.length:=List.length_pos_iff.2 h0
     have hop:0<out.length:=List.length_pos_iff.2 (b8 h0);by_cases hu:(zq b9).2=0
     ·have pw:=qgf hu
      rw [kh,qzm h0 hu] at hR;rw [hu] at bc;generalize (zq b9).1=f at pw bc hR;obtain⟨e,he⟩:∃ e,out[out.length - 1]? = some e:=⟨_,List.getElem?_eq_getElem (by omega)⟩;have heA:(out.map z6)[out.length - 1]? = some (z6 e):=by simp [he]
      have hef:=(hG e (List.mem_of_getElem? he)).2.1;have hmf:(e.fields.map fldA).length=e.fields.length:=by simp
      have m8:=qx5 (f:=f) he;have hal:=qoy out f;obtain⟨fk,fv⟩:=f;apply qf [];repeat' (first|apply And.intro|(intro h;try exact cDd)|exact⟨Tryz.call78⟩|refine cpe bc ?_|(refine qbm (i:=out.length - 1) rfl rfl rfl (congrArg (fun x=>some (IntKind.i64,x)) (by omega)) rfl rfl (by omega) ?_)|(refine qc0 (i:=out.length - 1) (j:=2) rfl rfl rfl rfl heA rfl rfl ?_)|(refine qlo (i:=out.length - 1) (j:=2) (z:=z6 e) (z':=.ag [Iv e.kind,Iv e.id,.sl 2 (e.fields.map fldA++[fldA (fk,fv)]) none]) (u:=.sl 2 (e.fields.map fldA++[fldA (fk,fv)]) none) rfl rfl rfl rfl rfl rfl heA rfl rfl ?_)|(refine Exists.intro (k+1,addF out (fk,fv),[]) ⟨⟨qx4 hG pw,by omega,by simp,by omega,by simp,by simp,.inr ⟨by omega,hR.symm⟩⟩,by simp only;omega,?_⟩)|exact cSd|apply qd []|refine exr ?_|refine qk ?_)
      all_goals first|(simp;done)|(rw [m8,List.map_set];simp [z6,zp,List.map_append];done)
     ·have hnn:qby text=none:=by
       rw [g7,← hR,kh];unfold yg;rw [if_neg h0,if_neg hu]
      rw [hnn];unfold qbx;generalize (zq b9).2=n at bc hu;generalize (zq b9).1=f at bc;obtain⟨fk,fv⟩:=f;apply qf [];repeat' (first|apply And.intro|(intro h;try exact cDd)|exact⟨Tryz.call78⟩|refine cpe bc ?_|exact cSd|apply qd []|refine exr ?_|refine qk ?_)
   ·-- a line
    obtain⟨x,hx⟩:∃ x,L[k]? = some x:=⟨_,List.getElem?_eq_getElem (by omega)⟩;have m3:(L.map lnA)[k]? = some (lnA x):=by simp [hx]
    have hxl:=d6 x (List.mem_of_getElem? hx)
    have hdr:(L.map fun x=>x.text).drop k=x.text::(L.map fun x=>x.text).drop (k+1):=by
     rw [List.drop_eq_getElem_cons (by simp;omega)];obtain⟨_,h⟩:=List.getElem?_eq_some_iff.1 hx;simp [h]
    rw [hdr] at hR;have cq:=fun st=>qkb x.text [32,32,32] st;have r8:=fun st=>qkb x.text [32,32] st;have bn:[32,32,32] <+: x.text→[32,32] <+: x.text:=fun ⟨q,hq⟩=>⟨[32]++q,by rw [← hq];rfl⟩
    have hmain:qby text=none∧(b9≠[]∧¬ [32,32,32] <+: x.text∧(zq b9).2≠0)∨∃ (o:List qp) (h:List qc),(qxx x.text ((L.map fun x=>x.text).drop (k+1)) o h=kh (L.map fun x=>x.text) [] []∧(h=[]∨[32,32,32] <+: x.text))∧OutG o (k+1)∧o.length≤40∧h.length≤k∧(h≠[]→o≠[])∧(∀ s∈h,s.length<1000000) ∧
      ((o=out∧h=b9∧b9=[])∨(o=out∧h=b9∧0<b9.length∧[32,32,32] <+: x.text)∨(h=[]∧0<b9.length∧¬ [32,32,32] <+: x.text∧∃ (e:qp) (fk fv:qc),(out.map z6)[out.length - 1]? = some (z6 e)∧e.fields.length≤k∧o=out.set (out.length - 1) ⟨e.kind,e.id,e.fields++[(fk,fv)]⟩∧0<out.length∧∀ st,qo E 78 [Ss b9] st fun r st'=>r = .tu [fldA (fk,fv),Iv 0]∧st'=st)):=by
     have step:∀ (o:List qp) (h:List qc),qmn (x.text::(L.map fun x=>x.text).drop (k+1)) out b9 o h→qxx x.text ((L.map fun x=>x.text).drop (k+1)) o h=kh (L.map fun x=>x.text) [] []∧(h=[]∨[32,32,32] <+: x.text):=fun o h e=>by
      obtain⟨g1,g2⟩:=q5d e;exact⟨by rw [← g1,hR],g2⟩
     by_cases i3:b9≠[]∧¬ [32,32,32] <+: x.text
     ·have hf:qcu b9 (x.text::(L.map fun x=>x.text).drop (k+1))=true:=by simp [qcu,i3.1,i3.2]
      by_cases hu:(zq b9).2=0
      ·have hop:0<out.length:=List.length_pos_iff.2 (b8 i3.1)
       have hfo:=qzm (out:=out) i3.1 hu;have pw:=qgf hu;rw [hu] at bc;obtain⟨e,he⟩:∃ e,out[out.length - 1]? = some e:=⟨_,List.getElem?_eq_getElem (by omega)⟩;refine .inr ⟨addF out (zq b9).1,[],step _ _ ?_,qx4 hG pw,by rw [qoy];exact lg,by simp,by simp,by simp,.inr (.inr ⟨rfl,List.length_pos_iff.2 i3.1,i3.2,e,_,_,by simp [he],(hG e (List.mem_of_getElem? he)).2.1,qx5 he,hop,bc⟩)⟩;unfold qmn;rw [if_pos hf];exact⟨hfo,rfl⟩
      ·exact .inl ⟨by rw [g7,← hR,qzl hf hu],i3.1,i3.2,hu⟩
     ·have hf:¬ qcu b9 (x.text::(L.map fun x=>x.text).drop (k+1))=true:=by simpa [qcu] using i3
      refine .inr ⟨out,b9,step _ _ ?_,hG.mono (by omega),lg,hh,b8,hhb,?_⟩
      ·unfold qmn
       rw [if_neg hf];exact⟨rfl,rfl⟩
      ·by_cases h0:b9=[]
       ·exact .inl ⟨rfl,rfl,h0⟩
       ·exact .inr (.inl ⟨rfl,rfl,List.length_pos_iff.2 h0,Classical.byContradiction fun h=>i3 ⟨h0,h⟩⟩)
    rcases hmain with⟨hnn,h0,gx,hu⟩ | ⟨o,h,⟨d8,hh0⟩,hG',h40',hh',hne',hhb',bf⟩
    ·have hz:0<b9.length:=List.length_pos_iff.2 h0
     rw [decide_eq_false gx] at cq;rw [hnn];unfold qbx;generalize (zq b9).2=n at bc hu;generalize (zq b9).1=f at bc;obtain⟨fk,fv⟩:=f;apply qf [];repeat' (first|apply And.intro|(intro h;try exact cDd)|(refine Exists.intro (k) ⟨by omega,_,m3,?_⟩)|exact⟨Tryz.call77⟩|refine cpe cq ?_|exact⟨Tryz.call78⟩|refine cpe bc ?_|exact cSd|apply qd []|refine exr ?_|refine qk ?_)
    clear hR hG lg hh b8 hhb;unfold qxx at d8;have hmo':(o.map z6).length=o.length:=by simp
    have hmh':(h.map fun x=>Sv x).length=h.length:=by simp
    by_cases h2:[32,32] <+: x.text
    ·have h2l:2≤x.text.length:=h2.length_le
     rw [decide_eq_true h2] at r8;rw [if_pos h2] at d8;by_cases ho:o=[]
     ·rw [if_pos ho] at d8
      have hnn:qby text=none:=by rw [g7,← d8]
      rw [hnn];unfold qbx;rcases bf with⟨rfl,rfl,h0⟩ | ⟨rfl,rfl,h0,gx⟩ | ⟨_,_,_,_,_,_,_,_,e,h0,_⟩
      ·have hz:h.length=0:=by simp [h0]
       have hz2:o.length=0:=by simp [ho]
       apply qf [];repeat' (first|apply And.intro|(intro h;try exact cDd)|(refine Exists.intro (k) ⟨by omega,_,m3,?_⟩)|exact⟨Tryz.call77⟩|refine cpe r8 ?_|exact cSd|apply qd []|refine exr ?_|refine qk ?_)
      ·have hz2:o.length=0:=by simp [ho]
       rw [decide_eq_true gx] at cq;apply qf [];repeat' (first|apply And.intro|(intro h;try exact cDd)|(refine Exists.intro (k) ⟨by omega,_,m3,?_⟩)|exact⟨Tryz.call77⟩|refine cpe cq ?_|exact⟨Tryz.call77⟩|refine cpe r8 ?_|exact cSd|apply qd []|refine exr ?_|refine qk ?_)
      ·exact absurd (congrArg List.length (ho.symm.trans e)) (by simp;omega)
     ·rw [if_neg ho] at d8
      have hz2:0<o.length:=List.length_pos_iff.2 ho
      have hhs:∀ s∈h++[x.text.drop 2],s.length<1000000:=fun s hs=>by
       rcases List.mem_append.1 hs with hs|hs
       ·exact hhb' s hs
       ·obtain rfl:=List.mem_singleton.1 hs
        rw [List.length_drop];omega
      obtain⟨hn,hhn⟩:∃ hn,hn=h++[x.text.drop 2]:=⟨_,rfl⟩;have ml:hn.length≤k+1:=by rw [hhn];simp;omega
      rw [← hhn] at d8 hhs;rcases bf with⟨rfl,rfl,h0⟩ | ⟨rfl,rfl,h0,gx⟩ | ⟨rfl,h0,gx,e,fk,fv,heA,hef,m8,hop,hun'⟩
      case' neg.inl=>have hz:h.length=0:=by simp [h0]
      case' neg.inr.inl=>rw [decide_eq_true gx] at cq
      case' neg.inr.inr=>
       rw [decide_eq_false gx] at cq;have hmf:(e.fields.map fldA).length=e.fields.length:=by simp
       have fm:out.length=o.length:=by rw [m8,List.length_set]
       have dv:((out.map z6).set (out.length - 1) (.ag [Iv e.kind,Iv e.id,.sl 2 (e.fields.map fldA++[fldA (fk,fv)]) none])).length=o.length:=by simp [fm]
      all_goals
       apply qf [];repeat' (first|apply And.intro|(intro h;try exact cDd)|(refine Exists.intro (k) ⟨by omega,_,m3,?_⟩)|exact⟨Tryz.call77⟩|refine cpe cq ?_|exact⟨Tryz.call77⟩|refine cpe r8 ?_|exact⟨Tryz.call78⟩|refine cpe hun' ?_|(refine qbm (i:=out.length - 1) rfl rfl rfl (congrArg (fun x=>some (IntKind.i64,x)) (by omega)) rfl rfl (by omega) ?_)|(refine qc0 (i:=out.length - 1) (j:=2) rfl rfl rfl rfl heA rfl rfl ?_)|(refine qlo (i:=out.length - 1) (j:=2) (z:=z6 e) (z':=.ag [Iv e.kind,Iv e.id,.sl 2 (e.fields.map fldA++[fldA (fk,fv)]) none]) (u:=.sl 2 (e.fields.map fldA++[fldA (fk,fv)]) none) rfl rfl rfl rfl rfl rfl heA rfl rfl ?_)|(refine Exists.intro (k+1,o,hn) ⟨⟨hG',h40',ml,by omega,fun _=>ho,hhs,.inl ⟨by omega,d8⟩⟩,by simp only;omega,?_⟩)|exact cSd|apply qd []|refine exr ?_|refine qk ?_)
       all_goals first|(simp [hhn];done)|(rw [m8,List.map_set];simp [z6,zp,List.map_append];done)
    ·rw [decide_eq_false h2] at r8
     rw [if_neg h2] at d8;obtain rfl:h=[]:=hh0.resolve_right fun q=>h2 (bn q);rcases bf with⟨rfl,rfl,h0⟩ | ⟨_,_,_,gx⟩ | ⟨_,h0,gx,e,fk,fv,heA,hef,m8,hop,hun'⟩
     case neg.inr.inl=>exact absurd (bn gx) h2
     case' neg.inr.inr=>
      rw [decide_eq_false gx] at cq;have hmf:(e.fields.map fldA).length=e.fields.length:=by simp
      have fm:out.length=o.length:=by rw [m8,List.length_set]
      have dv:((out.map z6).set (out.length - 1) (.ag [Iv e.kind,Iv e.id,.sl 2 (e.fields.map fldA++[fldA (fk,fv)]) none])).length=o.length:=by simp [fm]
     all_goals
      apply qf [];repeat' (first|apply And.intro|(intro h;try exact cDd)|(refine Exists.intro (k) ⟨by omega,_,m3,?_⟩)|exact⟨Tryz.call77⟩|refine cpe cq ?_|exact⟨Tryz.call77⟩|refine cpe r8 ?_|exact⟨Tryz.call78⟩|refine cpe hun' ?_|(refine qbm (i:=out.length - 1) rfl rfl rfl (congrArg (fun x=>some (IntKind.i64,x)) (by omega)) rfl rfl (by omega) ?_)|(refine qc0 (i:=out.length - 1) (j:=2) rfl rfl rfl rfl heA rfl rfl ?_)|(refine qlo (i:=out.length - 1) (j:=2) (z:=z6 e) (z':=.ag [Iv e.kind,Iv e.id,.sl 2 (e.fields.map fldA++[fldA (fk,fv)]) none]) (u:=.sl 2 (e.fields.map fldA++[fldA (fk,fv)]) none) rfl rfl rfl rfl rfl rfl heA rfl rfl ?_)|exact cSd|apply qd []|refine exr ?_|refine qk ?_)
      refine j5 (X:=Nat×Int×Int) (fun (j,a,b)=>⟨[(0,.s text),(4,.tp 0),(5,.tp 1),(6,.a (lnsA L)),(7,.i k),(11,.s x.text),(12,.bx 2 0),(13,.i ((j:Int)+1))],[(0,some (.own 3 55 (o.map z6))),(1,some (.tip 1 9 [])),(2,some (.cells 55 [.i a,.i b,.a zy]))],3⟩)
       (fun (j,a,b)=>j≤3∧qk2 x.text j a b) (fun (j,_,_)=>3 - j) (0,0,0) ⟨by omega,.inl ⟨rfl,rfl,rfl⟩⟩ ?_ ?_
      ·skip
       repeat' (first|apply And.intro|(intro h;try exact cDd)|exact cSd|apply qd []|refine exr ?_|refine qk ?_)
       all_goals first|(simp;done)|(rw [m8,List.map_set];simp [z6,zp,List.map_append];done)
      ·rintro⟨j,a,b⟩ ⟨hj,hta⟩
       by_cases hj3:j=3
       ·subst hj3
        unfold qk2 at hta;rw [q3p] at hta;rcases hta with⟨rfl,rfl,hb⟩ | ⟨ha,hb⟩
        ·rw [hb] at d8
         have hnn:qby text=none:=by rw [g7,← d8]
         rw [hnn];unfold qbx;apply qf [];repeat' (first|apply And.intro|(intro h;try exact cDd)|exact cSd|apply qd []|refine exr ?_|refine qk ?_)
        ·rw [hb] at d8
         simp only at d8;by_cases h40o:40≤o.length
         ·rw [if_pos h40o] at d8
          have hnn:qby text=none:=by rw [g7,← d8]
          rw [hnn];unfold qbx;apply qf [];repeat' (first|apply And.intro|(intro h;try exact cDd)|exact cSd|apply qd []|refine exr ?_|refine qk ?_)
         ·rw [if_neg h40o] at d8
          have lj:OutG (o++[⟨a,b,[]⟩]) (k+1):=fun y hy=>by
           rcases List.mem_append.1 hy with hy|hy
           ·exact hG' y hy
           ·obtain rfl:=List.mem_singleton.1 hy
            exact⟨by simp,by simp,q8i hb⟩
          apply qf [];repeat' (first|apply And.intro|(intro h;try exact cDd)|(refine qfg (ys:=[z6 ⟨a,b,[]⟩]) rfl rfl rfl rfl rfl rfl rfl rfl (by simp;omega) rfl ?_)|(refine Exists.intro (k+1,o++[⟨a,b,[]⟩],[]) ⟨⟨lj,by simp;omega,by simp,by omega,by simp,by simp,.inl ⟨by omega,d8⟩⟩,by simp only;omega,?_⟩)|exact cSd|apply qd []|refine exr ?_|refine qk ?_)
          all_goals (simp;done)
       ·obtain⟨H,hH⟩:∃ H,H=x4 ((j:Int)+1):=⟨_,rfl⟩
        have hj012:j=0∨j=1∨j=2:=by omega
        have hHl:H.length≤9:=by
         rw [hH];rcases hj012 with rfl|rfl|rfl <;> decide
        have hli:∀ st,qo E 69 [z6 ⟨(j:Int)+1,0,[]⟩] st fun r st'=>r=Sv (H++[48])∧st'=st:=fun st=>by
         have:=qwq ⟨(j:Int)+1,0,[]⟩ st (by simp) (by simp);unfold jx at this;rw [if_pos (by constructor <;> simp only <;> omega),h0i,← hH] at this;exact this
        have r6:(H++[48]).take H.length=H:=List.take_left;have pf:qhr x.text (j+1)=tryR x.text (qhr x.text j) ((j:Int)+1):=rfl;unfold tryR at pf;rw [← hH] at pf
        have mt:(if H <+: x.text then match numZ (x.text.drop H.length) with
         |some n=>some ((j:Int)+1,n)
         |none=>qhr x.text j else qhr x.text j)=qhr x.text (j+1):=pf.symm
        by_cases hp:H <+: x.text
        ·rw [if_pos hp] at mt
         have t6:=hp.length_le;have hbH:=fun st=>q01 x.text ((H++[48]).take H.length) true (by rw [r6];exact decide_eq_true hp) st
         cases hz:numZ (x.text.drop H.length) with
         |none=>
          rw [hz] at mt;have hnu:∀ st,qo E 79 [Sv (x.text.drop H.length)] st fun r st'=>r = .tu [Iv 0,Bv false]∧st'=st:=fun st=>q09 _ st (by simp;omega) hz;have hta':qk2 x.text (j+1) a b:=by unfold qk2 at hta ⊢;rw [← mt];exact hta
          apply qf [];repeat' (first|apply And.intro|(intro h;try exact cDd)|exact⟨Tryz.call69⟩|refine cpe hli ?_|(refine Exists.intro H.length ⟨by simp,?_⟩)|exact⟨Tryz.call77⟩|refine cpe hbH ?_|exact⟨Tryz.call79⟩|refine cpe hnu ?_|(refine Exists.intro (j+1,a,b) ⟨⟨by omega,hta'⟩,by simp only;omega,?_⟩)|exact cSd|apply qd []|refine exr ?_|refine qk ?_)
          all_goals first|(simp [r6];done)|(simp [r6];omega)|omega
         |some n=>
          rw [hz] at mt;have hnu:∀ st,qo E 79 [Sv (x.text.drop H.length)] st fun r st'=>r = .tu [Iv n,Bv true]∧st'=st:=fun st=>q1a _ n st (by simp;omega) hz;have hta':qk2 x.text (j+1) ((j:Int)+1) n:=.inr ⟨by omega,mt.symm⟩;apply qf [];repeat' (first|apply And.intro|(intro h;try exact cDd)|exact⟨Tryz.call69⟩|refine cpe hli ?_|(refine Exists.intro H.length ⟨by simp,?_⟩)|exact⟨Tryz.call77⟩|refine cpe hbH ?_|exact⟨Tryz.call79⟩|refine cpe hnu ?_|(refine Exists.intro (j+1,(j:Int)+1,n) ⟨⟨by omega,hta'⟩,by simp only;omega,?_⟩)|exact cSd|apply qd []|refine exr ?_|refine qk ?_)
          all_goals first|(simp [r6];done)|(simp [r6];omega)|omega
        ·rw [if_neg hp] at mt
         have hbH:=fun st=>q01 x.text ((H++[48]).take H.length) false (by rw [r6];exact decide_eq_false hp) st;have hta':qk2 x.text (j+1) a b:=by unfold qk2 at hta ⊢;rw [← mt];exact hta
         apply qf [];repeat' (first|apply And.intro|(intro h;try exact cDd)|exact⟨Tryz.call69⟩|refine cpe hli ?_|(refine Exists.intro H.length ⟨by simp,?_⟩)|exact⟨Tryz.call77⟩|refine cpe hbH ?_|(refine Exists.intro (j+1,a,b) ⟨⟨by omega,hta'⟩,by simp only;omega,?_⟩)|exact cSd|apply qd []|refine exr ?_|refine qk ?_)
         all_goals first|(simp [r6];done)|(simp [r6];omega)|omega
  ·have hB:=q9y hG (by omega)
   rw [hR] at g7;simp only at g7;have gc:=fun st=>q04 out st hB (by omega);by_cases he:eErr out = .no
   ·have dq:=fun st=>qxj out st hB he
    rw [he] at gc;by_cases ht:encF out=text
    ·rw [if_pos ⟨he,ht⟩] at g7
     rw [g7];rw [ht] at dq;refine qum 4 rfl rfl ?_;apply qf [];repeat' (first|apply And.intro|(intro h;try exact cDd)|exact⟨Tryz.call37⟩|refine cpe gc ?_|exact⟨Tryz.call38⟩|refine cpe dq ?_|exact cSd|apply qd []|refine exr ?_|refine qk ?_)
    ·rw [if_neg (fun h=>ht h.2)] at g7
     rw [g7];unfold qbx;refine qum 4 rfl rfl ?_;apply qf [];repeat' (first|apply And.intro|(intro h;try exact cDd)|exact⟨Tryz.call37⟩|refine cpe gc ?_|exact⟨Tryz.call38⟩|refine cpe dq ?_|exact absurd ht (by assumption)|exact cSd|apply qd []|refine exr ?_|refine qk ?_)
   ·rw [if_neg (fun h=>he h.1)] at g7
    rw [g7];have h0:¬ (eErr out).code=0:=fun h=>he ((qi5 out).1 h);generalize (eErr out).code=c at gc h0;generalize (eErr out).pos=c2 at gc;unfold qbx;refine qum 4 rfl rfl ?_;apply qf [];repeat' (first|apply And.intro|(intro h;try exact cDd)|exact⟨Tryz.call37⟩|refine cpe gc ?_|exact cSd|apply qd []|refine exr ?_|refine qk ?_)
end Go.Proofs.YtapblfabkbdgcaaGreatDoor
namespace Go.Pl
open Go Go.Proofs Go.Proofs.YtapblfabkbdgcaaGreatDoor
structure qe2 where
 gen:Int
 base:qc
 batches:List (List qp)
 ends : List Int
 tail:qc
def q5s:qe2:=⟨0,[],[],[],[]⟩
def vb (text:qc):ErrV:=if 60000<text.length then .num 1 else match (jj text).1 with
 |none=>.no
 |some (a,n)=>.at' a n
def y3:Nat→qc→Int→List (List qp)→List Int→Bool×List (List qp)×List Int×qc
 | 0,l,_,bs,es=>(false,bs,es,l)
 |f+1,l,a,bs,es=>
  if (qba l).1=2 then (false,bs,es,l)
  else if (qba l).1=1 then match decF (qba l).2.1 with
   |some b=>y3 f (l.drop (qba l).2.2.toNat) (a+(qba l).2.2) (bs++[b]) (es++[a+(qba l).2.2])
   |none=>(true,bs,es,l)
  else (true,bs,es,l)
def qta (text:qc):qc:=(qbp text).2
def atH (text:qc):Nat:=q8l (qta text).length (qta text)
def zeh (text:qc):qc:=(qta text).take (atH text)
def qs4 (text:qc):Bool×List (List qp)×List Int×qc:=y3 (text.length+1) ((qta text).drop (atH text)) (((text.length - (qta text).length+atH text:Nat)):Int) [] []
def zei (text:qc):ErrV×qe2:=
 if 120000<text.length then (.num 1,q5s)
 else match vb (zeh text) with
  | .no=>if (qs4 text).1=true then (.at' (qs4 text).2.1.length 10,q5s) else (.no,⟨(qbp text).1,zeh text,(qs4 text).2.1,(qs4 text).2.2.1,(qs4 text).2.2.2⟩)
  |e=>(e,q5s)
structure qk0 (b:List qp):Prop where
 ok:eErr b = .no
 B:∀ x∈b,EdB x
 len:(encF b).length≤50000
theorem qk0.good {b:List qp} (h:qk0 b):qf7 (encF b):=q85 h.ok h.B h.len
theorem zcl {t:qc} {b:List qp} (h:decF t=some b):qk0 b∧encF b=t:=by
 obtain⟨h1,h2,h3⟩:=qd9 h;exact⟨⟨h1,q8t h,by rw [h2];exact h3⟩,h2⟩
def recE (b:List qp):qc:=recF (encF b)
def qao (bs:List (List qp)):qc:=bs.flatMap recE
def qd3 (a:Int):List (List qp)→List Int
 | []=>[]
 |b::r=>(a+(recE b).length)::qd3 (a+(recE b).length) r
theorem qlw (b:List qp) (r:List (List qp)):qao (b::r)=recE b++qao r:=rfl
theorem q64 (r:List (List qp)) (b:List qp):qao (r++[b])=qao r++recE b:=by simp [qao]
theorem qr0:∀ (r:List (List qp)) (a:Int) (b:List qp),qd3 a (r++[b])=qd3 a r++[a+(qao r).length+(recE b).length]
 | [],a,b=>by simp [qd3,qao]
 |x::r,a,b=>by
  rw [List.cons_append,qd3,qd3,qr0 r,qlw];simp;omega
theorem qrz:∀ (r:List (List qp)) (a:Int),r≠[]→(qd3 a r).getLast? = some (a+(qao r).length)
 | [],_,h=>absurd rfl h
 | [x],a,_=>by simp [qd3,qao]
 |x::y::r,a,_=>by
  have:=qrz (y::r) (a+(recE x).length) (by simp);rw [qd3,List.getLast?_cons];rw [this,qlw x];simp;omega
structure qcj (text:qc) (b:qe2):Prop where
 txt:text=qb9 b.gen++(b.base++(qao b.batches++b.tail))
 gen:qbp text=(b.gen,b.base++(qao b.batches++b.tail))
 parse:vb b.base = .no
 good:∀ x∈b.batches,qk0 x
 tail:(qba b.tail).1=2
 ends : b.ends = qd3 ((qb9 b.gen).length + b.base.length) b.batches
 len:text.length≤120000
def BegP (x:qc):Prop:=x=[]∨begF (upto 10 x)=true
theorem q8h {t:qc} (h:(qba t).1=2):BegP t:=by
 by_cases h0:t=[]
 ·exact .inl h0
 ·obtain⟨n,fig,body,R,hp,_⟩:=zgp h
  obtain⟨_,_,_,_,_,hx⟩:=R;exact .inr (q8k hx hp h0)
theorem q8g {bs:List (List qp)} {t:qc} (hg:∀ b∈bs,qk0 b) (h:(qba t).1=2):BegP (qao bs++t):=by
 cases bs with
 |nil=>exact q8h h
 |cons b r=>
  refine .inr ?_;rw [qlw,List.append_assoc];exact ze4 _ (hg b (by simp)).good
theorem q8f {x:qc} (h:BegP x):x=[]∨x.head? = some 37:=by
 rcases h with h|h
 ·exact .inl h
 ·simp only [begF,decide_eq_true_eq] at h
  cases x with
  |nil=>exact .inl rfl
  |cons c r=>
   refine .inr ?_;have h1:=h.1;unfold upto at h1;by_cases hc:c=10
   ·subst hc;simp at h1
   ·simpa [hc] using h1
theorem q0p {l:qc} (h:vb l = .no):(∀ p∈zj l,begF p.1=false∧p.2=true)∧l.length≤60000:=by
 unfold vb at h;split at h
 ·simp at h
 ·split at h
  ·rename_i hp
   exact⟨q25 hp,by omega⟩
  ·simp at h
def qc7 (b:qe2):qc:=qb9 b.gen++(b.base++qao b.batches)
def qn3 (b:qe2):Int:=match b.ends.getLast? with
 |some e=>e
 |none=>((qb9 b.gen).length+b.base.length:Nat)
theorem qcj.split {text:qc} {b:qe2} (h:qcj text b):text=qc7 b++b.tail:=by
 have:=h.txt;unfold qc7
 simpa using this
theorem qcj.whole {text:qc} {b:qe2} (h:qcj text b):qn3 b=((qc7 b).length:Int):=by
 unfold qn3;rw [h.ends];by_cases h0:b.batches=[]
 ·rw [h0]
  simp [qd3,qc7,h0,qao]
 ·rw [qrz _ _ h0]
  simp [qc7];omega
theorem qcj.take {text:qc} {b:qe2} (h:qcj text b):text.take (qn3 b).toNat=qc7 b:=by
 rw [h.whole,Int.toNat_natCast]
 conv=>lhs;rw [h.split]
 rw [List.take_left]
theorem q6i {l:qc} (h:l≠[]) (hp:∀ p∈zj l,p.2=true):l.getLast? = some 10:=by
 have:∀ (k:Nat) (l:qc),l.length≤k→l≠[]→(∀ p∈zj l,p.2=true)→l.getLast? = some 10:=by
  intro k
  induction k with
  |zero=>intro l hl h0;exact absurd (List.length_eq_zero_iff.1 (by omega)) h0
  |succ k ih=>
   intro l hl h0 hp;rw [vw h0] at hp;have f9:10∈l:=by simpa using hp _ (List.mem_cons_self ..)
   have e:=qab f9;by_cases hq:past 10 l=[]
   ·rw [hq] at e
    rw [e];simp
   ·have:=ih (past 10 l) (by have:=xi (c:=10) h0;omega) hq fun p tj=>hp p (by simp [tj])
    rw [e];rw [List.getLast?_append,List.getLast?_cons,this];simp
 exact this _ l (Nat.le_refl _) h hp
theorem zfw {l x:qc} {n:Int} (h:∀ p∈zj l,p.2=true) (hx:x=[]∨x.head? = some 37) (hp:qco n <+: l++x):qco n <+: l:=by
 rcases qwn hp with h1 | ⟨r,h1,hr⟩
 ·exact h1
 ·by_cases dg:r=[]
  ·rw [h1,dg,List.append_nil]
   exact List.prefix_refl _
  ·exfalso
   obtain⟨c,q,rfl⟩:=List.exists_cons_of_ne_nil dg
   have hc:c=37:=by
    obtain⟨t,ht⟩:=hr;rcases hx with rfl|hx
    ·simp at ht
    ·rw [← ht] at hx
     simpa using hx
   subst hc;by_cases hl:l=[]
   ·rw [hl] at h1
    simp [qco,genL] at h1
   ·have i9:=q6i hl h
    obtain⟨q0,hq0⟩:∃ q0,l=q0++[10]:=by
     have:=qpd i9;exact⟨_,this.symm⟩
    have e:genL++Lib.itoa n++10::[10]=q0++10::(37::q):=by
     have:=h1;unfold qco at this;rw [hq0] at this
     simpa using this
    have hu10:10∉genL++Lib.itoa n:=by
     intro h;rcases List.mem_append.1 h with h|h
     ·revert h;decide
     ·exact qsh n h
    have hA:=wj (c:=10) [10] hu10;have hB:=xb (c:=10) [10] hu10;rw [e] at hA hB;by_cases hq10:10∈q0
    ·have e2:=qab hq10
     have e3:q0++10::(37::q)=upto 10 q0++10::(past 10 q0++10::(37::q)):=by
      conv=>lhs;rw [e2]
      simp
     rw [e3,xb _ (qa9 10 q0)] at hB;have:=congrArg List.length hB;simp at this;omega
    ·rw [xb _ hq10] at hB
     simp at hB
theorem q7g {l x y:qc} (h:∀ p∈zj l,p.2=true) (hx:qbp (l++x)=(0,l++x)) (hy:y=[]∨y.head? = some 37):qbp (l++y)=(0,l++y):=by
 refine qwx fun n r hg e=>?_;obtain⟨t,ht⟩:=zfw (n:=n) h hy ⟨r,e.symm⟩;have:qbp (l++x)=(n,t++x):=by rw [← ht,List.append_assoc,ql5 hg]
 rw [hx] at this;have h0:(0:Int)=n:=(Prod.mk.inj this).1;have:=hg.1;omega
theorem qcj.gen0 {text:qc} {b:qe2} (h:qcj text b):b.gen=0∨qfb b.gen:=by
 have:=(q3m text).2;rw [h.gen] at this;exact this
theorem qcj.other {text:qc} {b:qe2} (h:qcj text b) {bs:List (List qp)} {t:qc} (hg:∀ x∈bs,qk0 x) (ht:(qba t).1=2) (c8:(qb9 b.gen++(b.base++(qao bs++t))).length≤120000) :
  qcj (qb9 b.gen++(b.base++(qao bs++t))) ⟨b.gen,b.base,bs,qd3 ((qb9 b.gen).length+b.base.length) bs,t⟩:=by
 refine⟨rfl,?_,h.parse,hg,ht,rfl,c8⟩;rcases h.gen0 with h0|h0
 ·have hgen:=h.gen
  have htext:=h.txt;have e:qb9 b.gen=[]:=by unfold qb9;rw [if_neg (by rw [h0];decide)]
  rw [e,List.nil_append] at htext ⊢;rw [h0,htext] at hgen;simp only;rw [h0];exact q7g (fun p hp=>((q0p h.parse).1 p hp).2) hgen (q8f (q8g hg ht))
 ·have e:qb9 b.gen=qco b.gen:=by unfold qb9;rw [if_pos h0]
  simp only;rw [e,ql5 h0]
theorem zdl:qba []=(2,[],0):=by
 unfold qba qij;rw [if_neg (by simp),if_pos];rw [if_neg (by decide)];decide
theorem qcj.more {text:qc} {b:qe2} (h:qcj text b) {x:List qp} (hx:qk0 x) (hl:(qc7 b++recE x).length≤120000):qcj (qc7 b++recE x) { b with batches:=b.batches++[x],ends:=b.ends++[qn3 b+(recE x).length],tail:=[] }:=by
 have e:qb9 b.gen++(b.base++(qao (b.batches++[x])++[]))=qc7 b++recE x:=by simp [qc7,q64]
 have:=h.other (bs:=b.batches++[x]) (t:=[]) (fun y hy=>by
  rcases List.mem_append.1 hy with hy|hy
  ·exact h.good y hy
  ·obtain rfl:=List.mem_singleton.1 hy
   exact hx) (by rw [zdl]) (by rw [e];exact hl)
 rw [e,qr0,← h.ends] at this
 have hw:((qb9 b.gen).length+b.base.length+(qao b.batches).length+(recE x).length:Int)=qn3 b+(recE x).length:=by
  rw [h.whole];simp [qc7];omega
 rw [hw] at this;exact this
end Go.Pl
namespace Go.Proofs.YtapblfabkbdgcaaGreatDoor
open Go Go.Av Go.RowKit Go.Proofs Go.Pl
def zen (L:List LnV) (i:Nat) (x:LnV):List qc:=x.text::vg ((L.drop (i+1)).map xx)
theorem qz5:∀ (r:List (qc×Bool)),(vg r).length≤r.length
 | []=>by simp [vg]
 |(t,e)::r=>by
  have:=qz5 r;rw [vg];split <;> simp <;> omega
theorem qz6:∀ {r:List (qc×Bool)} {n:Nat},(∀ p∈r,p.1.length≤n)→∀ s∈vg r,s.length≤n
 | [],_,_,s,hs=>by simp [vg] at hs
 |(t,e)::r,n,h,s,hs=>by
  rw [vg] at hs;split at hs
  ·rcases List.mem_cons.1 hs with rfl|hs
   ·exact h (s,e) (by simp)
   ·exact qz6 (fun p hp=>h p (by simp [hp])) s hs
  ·simp at hs
structure LnsB (L:List LnV):Prop where
 len:L.length<100000
 val:∀ x∈L,x.text.length<100000
theorem LnsB.said {L:List LnV} (h:LnsB L) {i:Nat} {x:LnV} (hx:L[i]? = some x):LsB (zen L i x):=by
 have h1:=qz5 ((L.drop (i+1)).map xx);have h2:=h.len;have h3:=h.val x (List.mem_of_getElem? hx);refine⟨?_,fun s hs=>?_⟩
 ·unfold zen
  simp at h1 ⊢;omega
 ·rcases List.mem_cons.1 hs with rfl|hs
  ·omega
  ·have:=qz6 (n:=100000) (fun p hp=>by
    obtain⟨y,hy,rfl⟩:=List.mem_map.1 hp;have:=h.val y (List.mem_of_mem_drop hy);simp only [xx]
    omega) s hs
   omega
@[reducible] def qf9 (es : List Int) : AV := .sl 1 (es.map fun x => Iv x) none
theorem q0z {a b c:AV} (h1:Pure a) (h2:Pure b) (h3:Pure c):Pure (.tu [a,b,c]):=qev fun z hz=>by
 simp only [List.mem_cons,List.not_mem_nil,or_false] at hz;rcases hz with rfl|rfl|rfl
 ·exact h1
 ·exact h2
 ·exact h3
theorem qfd (es:List Int):Pure (qf9 es):=qch fun x hx=>by
 obtain⟨b,_,rfl⟩:=List.mem_map.1 hx;intro y hy;simp only [AV.cells,List.mem_cons,List.not_mem_nil,or_false] at hy;subst hy;exact q8 _
theorem q3g (text:qc) (st:List AObj) (hl:60000<text.length) (h2:text.length<1000000):qo E 49 [Sv text] st fun r st'=>r = .tu [w8 [],errA (.num 1)]∧st'=st:=by
 refine zw [.s text] (j9 (qga _) (vd _)) Tryz.func49 rfl rfl (fun _=>rfl) rfl fun S0=>?_;apply qf [];repeat' (first|apply And.intro|(intro h;try exact cDd)|exact cSd|apply qd []|refine exr ?_|refine qk ?_)
def itsE (text:qc):List za:=if 60000<text.length then [] else (jj text).2
theorem zas (text:qc) (st:List AObj) (hl:text.length<1000000):qo E 49 [Sv text] st fun r st'=>r = .tu [w8 (itsE text),errA (vb text)]∧st'=st:=by
 unfold vb itsE;by_cases hb:60000<text.length
 ·rw [if_pos hb,if_pos hb]
  exact q3g text st hb hl
 ·rw [if_neg hb,if_neg hb]
  have:=qqu text st (by omega);unfold qc1 at this;rcases hp:(jj text).1 with _ | ⟨x,y⟩
  ·rw [hp] at this
   exact this
  ·rw [hp] at this
   exact this
end Go.Proofs.YtapblfabkbdgcaaGreatDoor
namespace Go.Pl
open Go Go.Proofs
structure EntV where
 x:za
 id:Int
structure q9 where
 ents:List EntV
 next:Int
 many:Int
def wp (l:q9) (x:za):q9:=if x.kind=3 then⟨l.ents++[⟨x,l.next⟩],l.next+1,l.many+1⟩ else⟨l.ents++[⟨x,0⟩],l.next,l.many⟩
def ofF (its:List za):q9:=its.foldl wp ⟨[],1,0⟩
end Go.Pl
namespace Go.Proofs.YtapblfabkbdgcaaGreatDoor
open Go Go.Av Go.RowKit Go.Proofs Go.Pl
@[reducible] def entA (e : EntV) : AV := .ag [Iv e.x.kind, Sv e.x.raw, zp e.x.fields, Iv e.id]
@[reducible] def vt (l : q9) : AV := .pp [.sl 4 (l.ents.map entA) none, Iv l.next, Iv l.many]
def qif (e:ErrV) (l:q9):AV:=match e with
 | .no=>.tu [vt l,errA .no]
 |e=>.tu [.v (.pointer none),errA e]
theorem q6e (e:EntV):qn8 (entA e):=fun y hy=>by
 simp only [AV.cells,List.mem_cons,List.not_mem_nil,or_false] at hy;rcases hy with rfl|rfl|rfl|rfl
 ·exact q8 _
 ·exact q8 _
 ·exact qa6 _
 ·exact q8 _
theorem qsl (l:q9):Pure (vt l):=quj fun x hx=>by
 simp only [List.mem_cons,List.not_mem_nil,or_false] at hx;rcases hx with rfl|rfl|rfl
 ·exact qch fun x hx=>by
   obtain⟨f,_,rfl⟩:=List.mem_map.1 hx;exact q6e f
 ·exact q8 _
 ·exact q8 _
theorem qpo (e:ErrV) (l:q9):Pure (qif e l):=by
 cases e with
 |no=>exact j9 (qsl l) (vd _)
 |num n=>exact j9 (q8 _) (vd _)
 |at' a n=>exact j9 (q8 _) (vd _)
theorem qho:∀ (n:Nat) (rest:qc) (k:Nat) (p:PSt),rest.length≤n→PB (4 * k) p→k+rest.length≤60000→(runL k (zj rest) p).2.items.length≤300000:=by
 have nil:∀ (k:Nat) (p:PSt),PB (4 * k) p→k≤60000→(runL k (zj []) p).2.items.length≤300000:=fun k p hB hk=>by
  have e:jh p 0 [] true 1=endP p:=rfl;have h:=qir (no:=0) (text:=[]) (ended:=true) (kind:=1) hB (by omega) (by simp);rw [e] at h;have e2:runL k (zj []) p=endP p:=by rw [kv];rfl
  rw [e2];have:=h.items;omega
 intro n
 induction n with
 |zero=>
  intro rest k p hr hB hk;obtain rfl:rest=[]:=List.eq_nil_of_length_eq_zero (by omega)
  exact nil k p hB (by simpa using hk)
 |succ n ih=>
  intro rest k p hr hB hk;by_cases b8:rest=[]
  ·subst b8
   exact nil k p hB (by simpa using hk)
  ·have hu:=vk 10 rest
   have t6:=vo 10 rest;have dg:0<rest.length:=List.length_pos_iff.2 b8;rw [vw b8];simp only [runL];have cn:=qqx (no:=k) (text:=upto 10 rest) (ended:=decide (10∈rest)) hB (by omega) (by omega);split
   ·have:=hB.items
    simp only;omega
   ·exact ih (past 10 rest) (k+1) _ (by omega) cn (by omega)
theorem qzz (text:qc):(itsE text).length≤300000:=by
 unfold itsE;split
 ·simp
 ·have h:=qho text.length text 0 p0 (Nat.le_refl _) qxv (by omega)
  unfold jj;split
  ·simp
  ·exact h
theorem qqg (text:qc) (st:List AObj) (hl:text.length<1000000):qo E 25 [Sv text] st fun r st'=>r=qif (vb text) (ofF (itsE text))∧st'=st:=by
 refine qlu [.s text] (qpo _ _) Tryz.func25 rfl rfl (fun _=>rfl) rfl fun S0=>?_;have hp:=fun st=>zas text st hl;have mg:=qzz text;generalize itsE text=its at hp mg
 cases he:vb text with
 |num n=>
  rw [he] at hp;apply qf [19]
  repeat' (first|apply And.intro|(intro h;try exact cDd)|exact⟨Tryz.call49⟩|refine cpe hp ?_|exact cSd|apply qd [19]|refine exr ?_|refine qk ?_)
 |at' a n=>
  rw [he] at hp;apply qf [19]
  repeat' (first|apply And.intro|(intro h;try exact cDd)|exact⟨Tryz.call49⟩|refine cpe hp ?_|exact cSd|apply qd [19]|refine exr ?_|refine qk ?_)
 |no=>
  rw [he] at hp;apply qf [19];repeat' (first|apply And.intro|(intro h;try exact cDd)|exact⟨Tryz.call49⟩|refine cpe hp ?_|exact cSd|apply qd [19]|refine exr ?_|refine qk ?_)
  refine j5 (X:=Nat×q9) (fun (k,l)=>⟨[(6,.bx 0 0),(20,.a (w8 its)),(21,.i its.length),(22,.i k)],[(0,some (.cells 105 [.tp 1,.i l.next,.i l.many])),(1,some (.tip 4 109 (l.ents.map entA)))],2⟩)
   (fun (k,l)=>k≤its.length∧l.ents.length=k∧(1≤l.next∧l.next≤k+1∧0≤l.many∧l.many≤k)∧(its.drop k).foldl wp l=ofF its) (fun (k,l)=>its.length - k) (0,⟨[],1,0⟩) ⟨by omega,rfl,⟨by decide,by decide,by decide,by decide⟩,rfl⟩ ?_ ?_
  ·skip
   repeat' (first|apply And.intro|(intro h;try exact cDd)|exact cSd|apply qd []|refine exr ?_|refine qk ?_)
   all_goals (simp;done)
  ·rintro⟨k,l⟩ ⟨hk,hlk,s4,a8⟩
   by_cases i7:k<its.length
   ·have hx:its[k]? = some its[k]:=List.getElem?_eq_getElem i7
    have m3:(its.map vr)[k]? = some (vr its[k]):=by rw [List.getElem?_map,hx];rfl
    rw [List.drop_eq_getElem_cons i7,List.foldl_cons] at a8;have i6:(l.ents.map entA).length=l.ents.length:=by simp
    generalize its[k]=x at hx m3 a8;by_cases cz:x.kind=3
    ·have e:wp l x=⟨l.ents++[⟨x,l.next⟩],l.next+1,l.many+1⟩:=if_pos cz
     rw [e] at a8;apply qf [];repeat' (first|apply And.intro|(intro h;try exact cDd)|(refine Exists.intro (k) ⟨by omega,_,m3,?_⟩)|(refine Exists.intro (k+1,⟨l.ents++[⟨x,l.next⟩],l.next+1,l.many+1⟩) ⟨⟨by omega,by simp [hlk],by simp only;omega,a8⟩,by simp only;omega,?_⟩)|exact cSd|apply qd []|refine exr ?_|refine qk ?_)
     all_goals (simp;done)
    ·have e:wp l x=⟨l.ents++[⟨x,0⟩],l.next,l.many⟩:=if_neg cz
     rw [e] at a8;apply qf [];repeat' (first|apply And.intro|(intro h;try exact cDd)|(refine Exists.intro (k) ⟨by omega,_,m3,?_⟩)|(refine Exists.intro (k+1,⟨l.ents++[⟨x,0⟩],l.next,l.many⟩) ⟨⟨by omega,by simp [hlk],by simp only;omega,a8⟩,by simp only;omega,?_⟩)|exact cSd|apply qd []|refine exr ?_|refine qk ?_)
     all_goals (simp;done)
   ·have i7:k=its.length:=by omega
    subst i7;rw [List.drop_length] at a8;have e:ofF its=l:=a8.symm;rw [e];apply qf [];repeat' (first|apply And.intro|(intro h;try exact cDd)|exact cSd|apply qd []|refine exr ?_|refine qk ?_)
end Go.Proofs.YtapblfabkbdgcaaGreatDoor
namespace Go.Av
open Go Go.RowKit
theorem qju {E:Env} {rd:Option Nat} {N:Nat} {ops:Array Oper} {K:AS→Prop} {s:AS} {rest:List Oper} {d:Option Tmp} {T:TypeId} {p:String} {af:Array Edge} {x:Operand} {t t' te:TypeId} {sz:Nat} {xs:List AV} {tip:Option Nat} (hx:qj N s x = .sl sz xs tip) (hu:E.P.underlying t=some (.slice te))
  (h1:xs=[]→AOps E rd N ops rest K (s.put d (Bv true))) (h2:AOps E rd N ops rest K (s.put d (Bv false))):AOps E rd N ops (⟨d,.binOp .eql t x (.const (.slice none 0 0)) t',T,p,af,none⟩::rest) K s:=by
 refine q7 rfl (qy nofun fun B0 w0 G a w _ hI=>?_);have he:=hI.eval_of hx
 have key:∃ q n c,a.eval x = .slice q n c∧(q.isNone=true→xs=[]):=by
  generalize a.eval x=u at he
  cases he with
  |sl0=>exact⟨_,_,_,rfl,fun _=>rfl⟩
  |sl=>exact⟨_,_,_,rfl,fun h=>by simp at h⟩
 obtain⟨q,n,c,hv,hq0⟩:=key;have hc:a.eval (.const (.slice none 0 0)) = .slice none 0 0:=rfl;have hq:=Lib.run_eql_slice_nil (P:=E.P) w t te q n c 0 0 hu;refine⟨_,w,G,.v (.bool q.isNone),s.st,?_,.refl G,hI.agree,.v _,?_⟩
 ·generalize a.eval = ρ at hv hc
  simp [execOp,hv,hc,eqGuard_at_slice,hq]
 ·cases hb:q.isNone with
  |true=>exact h1 (hq0 hb)
  |false=>exact h2
theorem qcd.len0 {c:AV} (h:qcd c):∀ (G:Gh) (v:Value),Rel G c v→∃ b n cp,v = .slice b n cp∧n≤cp:=fun G v hv=>by
 obtain⟨base,rfl⟩:=h.val G v hv;exact⟨_,_,_,rfl,Nat.le_refl _⟩
end Go.Av
namespace Go.Proofs.YtapblfabkbdgcaaGreatDoor
open Go Go.Av Go.RowKit Go.Proofs Go.Pl
theorem qb7 (fs:List Fld) (st:List AObj) (hl:fs.length<1000000):qo E 91 [zp fs] st fun r st'=>r=zp fs∧st'=st:=by
 refine ze (qa6 _) (qr Tryz.func91 rfl (Nat.le_of_ble_eq_true rfl) ?_);have i6:(fs.map fldA).length=fs.length:=by simp
 rw [List.append_nil];repeat' (first|(apply qb5 (st:=st);(iterate 6 exact rfl))|(apply qju;exact rfl;exact rfl;intro h0)|apply qm|apply qg|apply qh|apply ql|apply qi|(apply qe;exact rfl;apply cd_t;exact cRa)|(apply qe;exact rfl;apply cd_f;exact cRa)|apply qw|apply q6|(apply qh0 (b:=st.length) (xs:=[]) (ys:=fs.map fldA) (bytes:=32);(iterate 5 exact rfl);exact⟨⟨_,_,rfl,rfl,rfl,rfl,rfl⟩⟩;(focus (repeat' (first|assumption|exact q1w _ _ _ _|exact q41 _ _ _ _ _ _ _|apply qq0|apply qw1|(refine yw (T:=_) (ver:=_) (cs:=_) ?_)|exact wh|exact jl rfl|apply ke|apply kq|omega|apply qbk)));(exact qfu);(first|exact rfl|exact qb4 fun _=>rfl);((simp [maxLen];omega));((simp;omega));intro c' S' t1 g1 g2 g3 g4))
 ·exact qn rfl (wu (zh rfl) (fun G v h=>by
   rw [zp,h0]
   exact qbb h)) ⟨rfl,_,(List.append_nil st).symm⟩
 ·exact qn rfl (wu (zh rfl) (qly g1)) ⟨rfl,qub fun j hj=>(g2.same j (by omega) (Nat.lt_of_lt_of_le hj qfu)).trans (List.getElem?_append_left hj)⟩
theorem q5w (es:List EntV) (st:List AObj) (hl:es.length<1000000):qo E 127 [.sl 4 (es.map entA) none] st fun r st'=>OwnR 4 109 (es.map entA) st (.v undef) r st':=by
 refine qr Tryz.func127 rfl (Nat.le_of_ble_eq_true rfl) ?_;have i6:(es.map entA).length=es.length:=by simp
 rw [List.append_nil];by_cases he:es=[]
 ·subst he
  repeat' (first|(apply qb5 (st:=st);(iterate 6 exact rfl))|(apply qju;exact rfl;exact rfl;intro h0)|(apply qmq (c:=.os st.length 0 0 0 0);exact rfl;exact (qnn _ _ _).len0;exact fun _ _ h=>h;exact rfl;exact rfl;exact⟨⟨_,_,rfl,rfl,rfl,rfl,rfl⟩⟩)|apply qm|apply qg|apply qh|apply ql|apply qi|(apply qe;exact rfl;apply cd_t;exact cRa)|(apply qe;exact rfl;apply cd_f;exact cRa)|apply qw|apply q6)
  ·exact qn rfl (zh rfl) ⟨.inl ⟨rfl,qqm none⟩,Nat.le_refl _,fun _ _ _=>rfl,fun o ho=>by
   have ho:(none:Option Nat)=some o:=ho
   simp at ho⟩
  ·exact qn rfl (zh rfl) ⟨.inl ⟨rfl,qnn _ _ _⟩,qfu,fun j hj _=>List.getElem?_append_left hj,fun o ho=>by
   have ho:(none:Option Nat)=some o:=ho
   simp at ho⟩
 ·have b8:es.map entA≠[]:=by simpa using he
  repeat' (first|(apply qb5 (st:=st);(iterate 6 exact rfl))|(apply qju;exact rfl;exact rfl;intro h0)|(refine qd7 (ys:=es.map entA) (bytes:=56) (qnn _ _ _).val (fun _ _ h=>h) rfl rfl ⟨⟨_,_,rfl,rfl,rfl,rfl,rfl⟩⟩ (qb4 fun _=>rfl) b8 (by simp [maxLen];omega) (by simp;omega) fun cap pad q1 q2 q3 q4=>?_)|apply qm|apply qg|apply qh|apply ql|apply qi|(apply qe;exact rfl;apply cd_t;exact cRa)|(apply qe;exact rfl;apply cd_f;exact cRa)|apply qw|apply q6)
  ·exact absurd h0 b8
  ·refine qn rfl (zh rfl) ⟨.inr ⟨_,0,cap,pad,rfl,wh,q1,q2,q3,q4⟩,Nat.le_trans qfu qfu,fun j hj _=>?_,fun o ho=>?_⟩
   ·show ((st++[_])++[_])[j]? = _
    rw [List.getElem?_append_left (by simp;omega),List.getElem?_append_left hj]
   ·have d7:some (st++[AObj.cells 0 109 []]).length=some o:=ho
    simp only [Option.some.injEq] at d7;left;rw [← d7];simp
end Go.Proofs.YtapblfabkbdgcaaGreatDoor
