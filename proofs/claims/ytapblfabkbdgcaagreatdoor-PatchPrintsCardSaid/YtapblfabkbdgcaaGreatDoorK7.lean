/- Contracts and plain facts that the closing text leans on (part 7). No condition of their own beyond those that each states. -/
import Derived.Test.YtapblfabkbdgcaaGreatDoorK6
import Derived.Laws.StructEq
import Derived.Lib.SliceRun
set_option maxRecDepth 100000
set_option linter.unusedVariables false
set_option linter.unusedSimpArgs false
namespace Go.Pl
open Go Go.Proofs Go.Proofs.YtapblfabkbdgcaaGreatDoor
def GF (fs:List Fld):Prop:=fs.length≤40∧∀ f∈fs,j9 f
structure PI (p:PSt):Prop where
 items:∀ x∈p.items,GF x.fields∧(x.kind=3↔x.fields≠[])
 fields:GF p.fields
 full:p.lines≠[]→p.full=false→p.fields.length<40
theorem q15 {ls:List qc} (h:(jt ls).2=0):j9 (jt ls).1:=by
 unfold jt at h ⊢;split at h
 ·split at h
  ·simp at h
  ·rename_i h1 h2
   rw [if_pos h1,if_neg h2];exact⟨(qmw.1 h1.2.1).2.2,Nat.le_of_not_lt h2⟩
 ·simp at h
theorem pi0:PI p0:=⟨by simp [p0],⟨by simp [p0],by simp [p0]⟩,by simp [p0]⟩
theorem PI.flush {p:PSt} (h:PI p):PI (jn p).2:=by
 unfold jn;split
 ·exact h
 ·rename_i hl
  split
  ·exact h
  ·rename_i hu
   split
   ·exact h
   ·rename_i hf
    have d5:=h.full hl (by simpa using hf);refine⟨h.items,⟨by simp;omega,fun f hm=>?_⟩,by simp⟩;rcases List.mem_append.1 hm with hm|hm
    ·exact h.fields.2 f hm
    ·simp at hm;subst hm;exact q15 (by simpa using hu)
theorem PI.close {p:PSt} (h:PI p):PI (xm p):=by
 unfold xm;split
 ·exact⟨h.items,⟨by simp,by simp⟩,fun h1 h2=>by simp⟩
 ·refine⟨fun x hx=>?_,⟨by simp,by simp⟩,fun h1 h2=>by simp⟩
  rcases List.mem_append.1 hx with hx|hx
  ·exact h.items x hx
  ·simp at hx
   subst hx;refine⟨h.fields,?_⟩;simp only;split
   ·rename_i h0;simp [h0]
   ·rename_i h0;simp [h0]
theorem PI.end' {p:PSt} (h:PI p):PI (endP p).2:=by
 unfold endP;split
 ·exact h
 ·exact h.flush.close
theorem PI.lines' {p:PSt} (h:PI p) (hl:p.lines≠[]) (text:qc):PI { p with lines:=p.lines++[text] }:=⟨h.items,h.fields,fun _ hf=>h.full hl hf⟩
theorem PI.begin' {p:PSt} (h:PI p) (no:Int) (text:qc):PI (kf p no text):=by
 refine⟨h.items,h.fields,fun _ hf=>?_⟩;have:=h.fields.1;simp only [kf,decide_eq_false_iff_not,not_or] at hf ⊢;omega
theorem PI.ahead {p:PSt} (h:PI p) (no:Int) (text:qc) (ended:Bool) (kind:Int):PI (jd p no text ended kind).2:=by
 unfold jd;split
 ·split
  ·exact h
  ·rename_i hl
   split
   ·exact h.lines' hl text
   ·exact (h.lines' hl text).flush
 ·split
  ·exact h.end'
  ·exact h.flush
theorem PI.take {p:PSt} (h:PI p) (no:Int) (text:qc) (ended:Bool):PI (v6 p no text ended).2:=by
 have ha:=h.ahead no text ended (qs text);unfold v6;split
 ·exact h
 ·split
  ·exact h
  ·split
   ·refine⟨fun x hx=>?_,ha.fields,ha.full⟩
    rcases List.mem_append.1 hx with hx|hx
    ·exact ha.items x hx
    ·simp at hx;subst hx;exact⟨⟨by simp,by simp⟩,by simp⟩
   ·split
    ·have hb:=ha.begin' no text
     exact⟨hb.items,hb.fields,hb.full⟩
    ·exact⟨ha.items,ha.fields,ha.full⟩
theorem PI.run:∀ (ls:List (qc×Bool)) (k:Nat) (p:PSt),PI p→PI (runL k ls p).2
 | [],k,p,h=>h.end'
 |(t,e)::r,k,p,h=>by
  unfold runL;split
  ·exact h
  ·exact PI.run r (k+1) _ (h.take k t e)
theorem qjw (text:qc):∀ x∈(jj text).2,GF x.fields∧(x.kind=3↔x.fields≠[]):=by
 unfold jj;split
 ·simp
 ·exact (PI.run _ 0 _ pi0).items
theorem qxs (p:PSt):(xm p).items.length≤p.items.length+1:=by
 unfold xm;split <;> simp
theorem qht (p:PSt):(jn p).2.items=p.items:=by
 unfold jn;split
 ·rfl
 ·split
  ·rfl
  ·split <;> rfl
theorem qq4 (p:PSt):(endP p).2.items.length≤p.items.length+1:=by
 unfold endP;split
 ·simp
 ·have:=qxs (jn p).2
  rw [qht] at this;exact this
theorem qwy (p:PSt) (no:Int) (text:qc) (ended:Bool) (kind:Int):(jd p no text ended kind).2.items.length≤p.items.length+1:=by
 unfold jd;split
 ·split
  ·simp
  ·split
   ·simp
   ·rw [qht];simp
 ·split
  ·exact qq4 p
  ·rw [qht];simp
theorem q13 (p:PSt) (no:Int) (text:qc) (ended:Bool):(v6 p no text ended).2.items.length≤p.items.length+2:=by
 have ha:=qwy p no text ended (qs text);unfold v6;split
 ·simp
 ·split
  ·simp
  ·split
   ·simp;omega
   ·split
    ·simp [kf];omega
    ·simp;omega
theorem qg8:∀ (ls:List (qc×Bool)) (k:Nat) (p:PSt),(runL k ls p).2.items.length≤p.items.length+2 * ls.length+1
 | [],k,p=>by have:=qq4 p;simp [runL];omega
 |(t,e)::r,k,p=>by
  unfold runL;split
  ·simp;omega
  ·have h1:=qg8 r (k+1) (v6 p k t e).2
   have h2:=q13 p k t e;simp only [List.length_cons];omega
theorem q8r (text:qc):(jj text).2.length≤2 * text.length+1:=by
 unfold jj;split
 ·simp
 ·have h1:=qg8 (zj text) 0 p0
  have h2:=(qcr _ text (Nat.le_refl _)).2;have h3:p0.items.length=0:=rfl;simp only;omega
theorem q4m (by' l:qc):(vi by' l).1.length≤l.length:=by
 unfold vi;split
 ·have h:=(qcr _ l (Nat.le_refl _)).1
  have key:∀ (ls:List (qc×Bool)),(ls.flatMap fun x=>x.1.drop by'.length++wn x.2).length≤lsum ls:=by
   intro ls
   induction ls with
   |nil=>simp [lsum]
   |cons x r ih=>
    simp only [lsum,List.flatMap_cons,List.length_append,List.map_cons,List.sum_cons,List.length_drop] at ih ⊢;omega
  have:=key (zj l);simp only;omega
 ·simp
end Go.Pl
namespace Go.Proofs.YtapblfabkbdgcaaGreatDoor
open Go Go.Av Go.RowKit Go.Proofs Go.Pl
theorem qlk (text:qc) (st:List AObj) (hl:text.length≤60000) (h:(jj text).1=none):qn E 49 [Sv text] st fun r st'=>r = .tu [wy (jj text).2,.v .nilIface]∧st'=st:=by
 have:=qp2 text st hl;unfold qcu at this;rw [h] at this;exact this
theorem q1x (text:qc) (st:List AObj) (a n:Int) (hl:text.length≤60000) (h:(jj text).1=some (a,n)):qn E 49 [Sv text] st fun r st'=>r = .tu [wy (jj text).2,.ifc 73 (.pp [Iv a,.ifc 50 (Iv n)])]∧st'=st:=by
 have:=qp2 text st hl;unfold qcu at this;rw [h] at this;exact this
def qck (text:qc):List Fld×Bool:=
 if (vi [32,32] text).2=false∨(jj (vi [32,32] text).1).1≠none then ([],false)
 else match yu (jj (vi [32,32] text).1).2 with
  | []=>([],decide ((vi [32,32] text).1=[]))
  |f::_=>(f,decide ((jj (vi [32,32] text).1).2.length=1))
theorem zi2 {a b:List Fld} {c d:Bool} (h1:a=b) (h2:c=d):AV.tu [zl a,Bv c]=AV.tu [zl b,Bv d]:=by rw [h1,h2]
theorem q5l {its:List za} (h:∀ x∈its,GF x.fields∧(x.kind=3↔x.fields≠[])):∀ fs∈yu its,GF fs∧fs≠[]:=fun fs hfs=>by
 obtain⟨x,hx,rfl⟩:=List.mem_map.1 hfs;obtain⟨nw,tg⟩:=List.mem_filter.1 hx;have:=h x nw;exact⟨this.1,this.2.1 (by simpa using tg)⟩
set_option maxHeartbeats 2000000 in
theorem za4 (text:qc) (st:List AObj) (hl:text.length≤60000):qn E 114 [Sv text] st fun r st'=>r = .tu [zl (qck text).1,Bv (qck text).2]∧st'=st:=by
 refine zb (kw (y4 _) (q8 _)) (qr Tryz.func114 rfl (Nat.le_of_ble_eq_true rfl) ?_);have hdl:=q4m [32,32] text;have s0:=q8r (vi [32,32] text).1;have hit:=qjw (vi [32,32] text).1;unfold qck;obtain⟨d,hd⟩:∃ d,d=vi [32,32] text:=⟨_,rfl⟩;have mg:∀ st,qn E 157 [Sv text,Sv [32,32]] st fun r st'=>r = .tu [Sv d.1,Bv d.2]∧st'=st:=fun st=>by rw [hd];exact zaq text [32,32] st (by omega)
 rw [← hd] at hdl s0 hit ⊢;obtain⟨b,ok⟩:=d;simp only at hdl s0 hit mg ⊢
 cases hp:(jj b).1 with
 |some e=>
  obtain⟨a,n⟩:=e;rw [if_pos (.inr (by simp))]
  cases ok
  all_goals
   repeat' (first|apply qm|apply qg|apply qh|apply ql|apply qj|(apply zp;exact rfl;exact rfl)|(apply kj;exact rfl)|(apply zo;(iterate 4 exact rfl))|(apply qf5;exact cRa)|(apply qkv;exact cRa)|(apply q9;exact rfl;apply qwr;exact cRa)|(apply q9;exact rfl;apply qn0;exact cRa)|(apply qe;exact rfl;apply cd_t;exact cRa)|(apply yv;exact rfl;exact rfl)|apply q6|(apply qp;exact Tryz.call157;exact mg _)|(apply qp;exact Tryz.call49;exact q1x _ _ _ _ (by omega) hp))
   exact qo rfl (wp (yx rfl) (qdz (qe2 2) (qa6 (Bv false)))) ⟨rfl,_,rfl⟩
 |none=>
  cases ok
  ·rw [if_pos (.inl rfl)]
   repeat' (first|apply qm|apply qg|apply qh|apply ql|apply qj|(apply zp;exact rfl;exact rfl)|(apply kj;exact rfl)|(apply zo;(iterate 4 exact rfl))|(apply qkv;exact cRa)|(apply q9;exact rfl;apply qwr;exact cRa)|(apply qe;exact rfl;apply cd_t;exact cRa)|apply q6|(apply qp;exact Tryz.call157;exact mg _)|(apply qp;exact Tryz.call49;exact qlk _ _ (by omega) hp))
   exact qo rfl (wp (yx rfl) (qdz (qe2 2) (qa6 (Bv false)))) ⟨rfl,_,rfl⟩
  ·rw [if_neg (by simp)]
   have hsc:=fun st=>q9o (jj b).2 st (by omega) (fun x hx=>by have:=(hit x hx).1.1;omega);have g9:((jj b).2.map vo).length=(jj b).2.length:=by simp
   cases hr:yu (jj b).2 with
   |nil=>
    rw [hr] at hsc;repeat' (first|apply qm|apply qg|apply qh|apply ql|apply qj|(apply zp;exact rfl;exact rfl)|(apply qu;(iterate 3 exact rfl))|(apply vm;(iterate 3 exact rfl))|(apply kj;exact rfl)|(apply zo;(iterate 4 exact rfl))|(apply qf5;exact cRa)|(apply q9;exact rfl;apply qn0;exact cRa)|(apply qe;exact rfl;apply cd_t;exact cRa)|(apply qe;exact rfl;apply cd_f;exact cRa)|(apply z6;(iterate 4 exact rfl))|(apply x3;exact rfl;exact rfl)|apply qw|apply q6|(apply qp;exact Tryz.call157;exact mg _)|(apply qp;exact Tryz.call49;exact qlk _ _ (by omega) hp)|(apply qp;exact Tryz.call158;exact hsc _))
    exact qo rfl (wp (yx rfl) (qdz (qe2 2) (qa6 (Bv (decide (b=[])))))) ⟨rfl,_,rfl⟩
   |cons f r=>
    rw [hr] at hsc;have cx:((f::r).map zl).length=r.length+1:=by simp
    repeat' (first|apply qm|apply qg|apply qh|apply ql|apply qj|(apply zp;exact rfl;exact rfl)|(apply qu;(iterate 3 exact rfl))|(apply kj;exact rfl)|(apply zo;(iterate 4 exact rfl))|(apply qf5;exact cRa)|(apply q9;exact rfl;apply qn0;exact cRa)|(apply qe;exact rfl;apply wv;exact cAo)|(apply qe;exact rfl;apply cd_f;exact cRa)|(apply z6;(iterate 4 exact rfl))|(apply x3;exact rfl;exact rfl)|(apply jh;(iterate 3 exact rfl))|apply qw|apply q6|(apply qp;exact Tryz.call157;exact mg _)|(apply qp;exact Tryz.call49;exact qlk _ _ (by omega) hp)|(apply qp;exact Tryz.call158;exact hsc _)|(apply j6 (n:=0);(iterate 6 exact rfl)))
    refine qo rfl (yx rfl) ⟨zi2 rfl (decide_eq_decide.2 ?_),_,rfl⟩;rw [g9];omega
def xn (text:qc):List LnV→Nat→List qc
 | [],frm=>[text.drop frm]
 |l::r,frm=>if frm<l.at'∧¬ [32,32] <+: l.text then (text.take l.at').drop frm::xn text r l.at' else xn text r frm
def qdl (text:qc):List qc:=xn text (lns text) 0
theorem q7u (l m:qc) (st:List AObj) (h:m <+: l):qn E 154 [Sv l,Sv m] st fun r st'=>r=Bv true∧st'=st:=by
 have:=qjn l m st;rw [(yy l m).2 h] at this;exact this
theorem q7t (l m:qc) (st:List AObj) (h:¬ m <+: l):qn E 154 [Sv l,Sv m] st fun r st'=>r=Bv false∧st'=st:=by
 have:=qjn l m st
 have hf:Lib.hasPrefix l m=false:=by
  cases hb:Lib.hasPrefix l m with
  |false=>rfl
  |true=>exact absurd ((yy l m).1 hb) h
 rw [hf] at this;exact this
theorem zfu (text:qc) (st:List AObj) (hl:text.length<1000000):qn E 112 [Sv text] st fun r st'=>r=Ss (qdl text)∧st'=st:=by
 refine zt [.s text] (qn1 _) Tryz.func112 rfl rfl (fun _=>rfl) rfl fun S0=>?_;apply qf [];repeat' (first|apply And.intro|(intro h;try exact cDd)|exact⟨Tryz.call82⟩|(refine Exists.intro _ ⟨qsh _,?_⟩)|exact cSd|apply qd []|refine exr ?_|refine qk ?_)
 refine qkg (X:=List qc×Nat) text 2 3 [0,1,2] (fun (out,frm)=>⟨[(1,.a (.pp [Sv text])),(3,.bx 0 0),(4,.bx 1 0),(7,.fn (.func 120) [] [.bx 2 0])],
   [(0,some (.cells 110 [.tp 3])),(1,some (.cells 3 [.i frm])),(2,some (.cells 9 [.s text])),(3,some (.tip 1 9 (out.map fun x=>Sv x)))],4⟩) _
  (fun k rest (out,frm)=>∃ a,a+rest.length=text.length∧frm≤a∧out.length≤k∧k≤a∧out++xn text (vf k a rest) frm=qdl text) (fun _ _=>False) ([],0) ⟨0,by simp,by omega,by simp,by omega,rfl⟩ ?_ id (by omega) (fun _=>rfl) rfl (fun _=>rfl) (fun _=>rfl) rfl ?_ ?_ (fun _ _ h=>h.elim)
 ·skip
  repeat' (first|apply And.intro|(intro h;try exact cDd)|exact cSd|apply qd []|refine exr ?_|refine qk ?_)
 ·rintro k rest ⟨out,frm⟩ ⟨a,ha,hfa,hok,hka,a8⟩ b8 c9
  have cr:=qbe (k:=k) (a:=a) b8;have hul:=vt 10 rest;have cm:0<rest.length:=List.length_pos_iff.2 b8;have s0:=vj 10 rest
  have hpa:a+(upto 10 rest).length+1+(past 10 rest).length=text.length∨past 10 rest=[]:=by
   by_cases f0:10∈rest
   ·have:=qdh f0
    exact .inl (by omega)
   ·right
    unfold past;rw [qb0 f0];simp
  have sj:∀ f,xn text (vf (k+1) (a+(upto 10 rest).length+1) (past 10 rest)) f=xn text (vf (k+1) (text.length - (past 10 rest).length) (past 10 rest)) f:=fun f=>by
   rcases hpa with h|h
   ·have:a+(upto 10 rest).length+1=text.length - (past 10 rest).length:=by omega
    rw [this]
   ·rw [h,qao,qao]
  have e:(text.length:Int) - rest.length=(a:Int):=by omega
  rw [cr,xn] at a8;unfold qnr;rw [e];by_cases hp:[32,32] <+: upto 10 rest
  ·have hhp:=fun st=>q7u (upto 10 rest) [32,32] st hp
   rw [if_neg (fun h=>h.2 hp),sj] at a8;refine RA.mk fun S F ρ rd=>?_;apply qf [];repeat' (first|apply And.intro|(intro h;try exact cDd)|(refine RB.mk fun S rd=>?_;apply qf [])|exact⟨Tryz.call154⟩|refine cpe hhp ?_|(refine Exists.intro (out,frm) ⟨⟨text.length - (past 10 rest).length,by omega,by omega,by omega,by omega,a8⟩,?_⟩)|exact cSd|apply qd []|refine exr ?_|refine qk ?_)
  ·have hhp:=fun st=>q7t (upto 10 rest) [32,32] st hp
   by_cases hfr:frm<a
   ·rw [if_pos ⟨hfr,hp⟩,sj] at a8
    refine RA.mk fun S F ρ rd=>?_;apply qf [];repeat' (first|apply And.intro|(intro h;try exact cDd)|(refine RB.mk fun S rd=>?_;apply qf [25])|exact⟨Tryz.call154⟩|refine cpe hhp ?_|(refine Exists.intro (out++[(text.take a).drop frm],a) ⟨⟨text.length - (past 10 rest).length,by omega,by omega,by simp;omega,by omega,by rw [← a8];simp⟩,?_⟩)|exact cSd|apply qd [25]|refine exr ?_|refine qk ?_)
    all_goals first|(simp [SV.evs];omega)|(simp [SV.evs,SV.ev];done)
   ·rw [if_neg (fun h=>hfr h.1),sj] at a8
    refine RA.mk fun S F ρ rd=>?_;apply qf [];repeat' (first|apply And.intro|(intro h;try exact cDd)|(refine RB.mk fun S rd=>?_;apply qf [])|exact⟨Tryz.call154⟩|refine cpe hhp ?_|(refine Exists.intro (out,frm) ⟨⟨text.length - (past 10 rest).length,by omega,by omega,by omega,by omega,a8⟩,?_⟩)|exact cSd|apply qd []|refine exr ?_|refine qk ?_)
 ·rintro k ⟨out,frm⟩ ⟨a,ha,hfa,hok,hka,a8⟩
  rw [qao,xn] at a8;repeat' (first|apply And.intro|(intro h;try exact cDd)|exact cSd|apply qd []|refine exr ?_|refine qk ?_)
  rw [← a8];simp
def decP:List qc→List qq→Option (List qq)
 | [],acc=>some acc
 |p::r,acc=>match begE (upto 10 p) with
  |none=>none
  |some (k,n)=>if (qck (past 10 p)).2=true∧acc.length≠40 then decP r (acc++[⟨k,n,(qck (past 10 p)).1⟩]) else none
def decF (text:qc):Option (List qq):=if 50000<text.length then none else match decP (qdl text) [] with
 |none=>none
 |some b=>if eErr b = .no∧encF b=text then some b else none
def decA:Option (List qq)→AV
 |none=>.tu [jo [],.ifc 50 (Iv 2)]
 |some b=>.tu [jo b,.v .nilIface]
theorem qui (x:Option (List qq)):Pure (decA x):=by
 rcases x with _|b
 ·exact kw (qb5 _) (qdw (q8 _))
 ·exact kw (qb5 _) (q8 _)
theorem qi5 (text:qc):∀ (ls:List LnV) (f:Nat),(∀ p∈xn text ls f,p.length≤text.length)∧(xn text ls f).length≤ls.length+1
 | [],f=>by simp [xn]
 |l::r,f=>by
  unfold xn;split
  ·obtain⟨h1,h2⟩:=qi5 text r l.at'
   refine⟨fun p hp=>?_,by simp;omega⟩;rcases List.mem_cons.1 hp with rfl|hp
   ·simp;omega
   ·exact h1 p hp
  ·obtain⟨h1,h2⟩:=qi5 text r f
   exact⟨h1,by simp;omega⟩
theorem qs1 {l:qc} {k n:Int} (h:begE l=some (k,n)) : -9223372036854775808≤n∧n≤9223372036854775807:=by
 have key:∀ {j:Int} {n:Int},tryB j l=some n→-9223372036854775808≤n∧n≤9223372036854775807:=fun {j n} h=>by
  unfold tryB at h;split at h
  ·split at h
   ·rename_i v hv
    cases h
    exact Lib.atoiAll_bounds hv
   ·simp at h
  ·simp at h
 unfold begE at h;split at h
 ·rename_i v hv;simp at h;rw [← h.2];exact key hv
 ·split at h
  ·rename_i v hv;simp at h;rw [← h.2];exact key hv
  ·split at h
   ·rename_i v hv;simp at h;rw [← h.2];exact key hv
   ·simp at h
theorem qom (text:qc):GF (qck text).1:=by
 unfold qck;split
 ·exact⟨by simp,by simp⟩
 ·split
  ·exact⟨by simp,by simp⟩
  ·rename_i f r hr
   exact (q5l (qjw _) f (by rw [hr];simp)).1
theorem q7i {k n:Int} {fs:List Fld} (h1 : -9223372036854775808≤n) (h2:n≤9223372036854775807) (hg:GF fs):EdB ⟨k,n,fs⟩:=
 ⟨fun f hf=>by have:=(hg.2 f hf).1.2.1;omega,by have:=hg.1;simp only;omega,h1,h2⟩
set_option maxHeartbeats 4000000 in
theorem zap (text:qc) (st:List AObj) (hl:text.length<1000000):qn E 75 [Sv text] st fun r st'=>r=decA (decF text)∧st'=st:=by
 refine zt [.s text] (qui _) Tryz.func75 rfl rfl (fun _=>rfl) rfl fun S0=>?_;by_cases hbig:50000<text.length
 ·have hd:decF text=none:=if_pos hbig
  rw [hd];apply qf [];repeat' (first|apply And.intro|(intro h;try exact cDd)|exact cSd|apply qd []|refine exr ?_|refine qk ?_)
 have g7:decF text=match decP (qdl text) [] with
  |none=>none
  |some b=>if eErr b = .no∧encF b=text then some b else none:=if_neg hbig
 have s0:=(qi5 text (lns text) 0).1;have hpn:=(qi5 text (lns text) 0).2;have hln:=qi1 _ text 0 0 (Nat.le_refl _);have hpe:xn text (lns text) 0=qdl text:=rfl;have c9:(lns text).length≤text.length:=hln;rw [hpe] at s0 hpn;have g9:((qdl text).map fun x=>Sv x).length=(qdl text).length:=by simp
 have hpc:=fun st=>zfu text st hl;generalize qdl text=L at g7 s0 hpn g9 hpc;apply qf [];repeat' (first|apply And.intro|(intro h;try exact cDd)|exact⟨Tryz.call112⟩|refine cpe hpc ?_|exact cSd|apply qd []|refine exr ?_|refine qk ?_)
 refine ke (X:=Nat×List qq) (fun (k,acc)=>⟨[(0,.s text),(4,.tp 0),(21,.a (Ss L)),(22,.i L.length),(23,.i k)],[(0,some (.tip 3 55 (acc.map je)))],1⟩)
  (fun (k,acc)=>k≤L.length∧acc.length≤k∧(∀ x∈acc,EdB x)∧decP (L.drop k) acc=decP L []) (fun x=>L.length - x.1) (0,[]) ⟨by omega,by simp,by simp,rfl⟩ ?_ ?_
 ·skip
  repeat' (first|apply And.intro|(intro h;try exact cDd)|exact cSd|apply qd []|refine exr ?_|refine qk ?_)
  all_goals first|(simp;done)
 ·rintro⟨j,acc⟩ ⟨hj,hal,hB,a8⟩
  have hma:(acc.map je).length=acc.length:=by simp
  by_cases hc:j<L.length
  ·obtain⟨p,hx⟩:∃ p,L[j]? = some p:=⟨_,List.getElem?_eq_getElem hc⟩
   have hg:(L.map fun x=>Sv x)[j]? = some (Sv p):=by simp [hx]
   have hd:L.drop j=p::L.drop (j+1):=by
    obtain⟨d5,e⟩:=List.getElem?_eq_some_iff.1 hx;rw [List.drop_eq_getElem_cons d5,e]
   have gd:=s0 p (List.mem_of_getElem? hx);have hul:=vt 10 p;have hpal:=vj 10 p;have hcu:=fun st=>qj9 p 10 st (by omega);have rf:=fun st=>zd2 (upto 10 p) st (by omega);have hgf:=qom (past 10 p);have p4:=fun st=>za4 (past 10 p) st (by omega);rw [hd,decP] at a8
   cases rg:begE (upto 10 p) with
   |none=>
    rw [rg] at a8 rf;simp only at a8;rw [← a8] at g7;simp only at g7;rw [g7];apply qf []
    repeat' (first|apply And.intro|(intro h;try exact cDd)|(refine Exists.intro (j) ⟨by omega,_,hg,?_⟩)|exact⟨Tryz.call39⟩|refine cpe hcu ?_|exact⟨Tryz.call113⟩|refine cpe rf ?_|exact⟨Tryz.call114⟩|refine cpe p4 ?_|exact cSd|apply qd []|refine exr ?_|refine qk ?_)
   |some kn=>
    obtain⟨kd,n⟩:=kn;have bv:=qs1 rg;rw [rg] at a8 rf;simp only at a8;obtain⟨fs,hfs⟩:∃ x,x=(qck (past 10 p)).1:=⟨_,rfl⟩;rw [← hfs] at a8 p4 hgf
    cases hok:(qck (past 10 p)).2 with
    |false=>
     rw [hok] at a8 p4;rw [if_neg (by simp)] at a8;rw [← a8] at g7;simp only at g7;rw [g7];apply qf []
     repeat' (first|apply And.intro|(intro h;try exact cDd)|(refine Exists.intro (j) ⟨by omega,_,hg,?_⟩)|exact⟨Tryz.call39⟩|refine cpe hcu ?_|exact⟨Tryz.call113⟩|refine cpe rf ?_|exact⟨Tryz.call114⟩|refine cpe p4 ?_|exact cSd|apply qd []|refine exr ?_|refine qk ?_)
    |true=>
     rw [hok] at a8 p4;by_cases tk:acc.length=40
     ·rw [if_neg (by simp [tk])] at a8
      rw [← a8] at g7;simp only at g7;rw [g7];apply qf [];repeat' (first|apply And.intro|(intro h;try exact cDd)|(refine Exists.intro (j) ⟨by omega,_,hg,?_⟩)|exact⟨Tryz.call39⟩|refine cpe hcu ?_|exact⟨Tryz.call113⟩|refine cpe rf ?_|exact⟨Tryz.call114⟩|refine cpe p4 ?_|exact cSd|apply qd []|refine exr ?_|refine qk ?_)
     ·rw [if_pos ⟨rfl,tk⟩] at a8
      have cj:∀ x∈acc++[⟨kd,n,fs⟩],EdB x:=fun x hx=>by
       rcases List.mem_append.1 hx with hx|hx
       ·exact hB x hx
       ·obtain rfl:=List.mem_singleton.1 hx
        exact q7i bv.1 bv.2 hgf
      apply qf [];repeat' (first|apply And.intro|(intro h;try exact cDd)|(refine Exists.intro (j) ⟨by omega,_,hg,?_⟩)|exact⟨Tryz.call39⟩|refine cpe hcu ?_|exact⟨Tryz.call113⟩|refine cpe rf ?_|exact⟨Tryz.call114⟩|refine cpe p4 ?_|(refine Exists.intro (j+1,acc++[⟨kd,n,fs⟩]) ⟨⟨by omega,by simp;omega,cj,a8⟩,by simp only;omega,?_⟩)|exact cSd|apply qd []|refine exr ?_|refine qk ?_)
      all_goals (simp;done)
  ·have hd:L.drop j=[]:=List.drop_eq_nil_of_le (by omega)
   rw [hd,decP] at a8;rw [← a8] at g7;simp only at g7
   cases he:eErr acc with
   |no=>
    have gq:=fun st=>qus acc st hB he;by_cases ht:encF acc=text
    ·rw [if_pos ⟨he,ht⟩] at g7
     rw [g7];rw [ht] at gq;apply qf [];repeat' (first|apply And.intro|(intro h;try exact cDd)|exact⟨Tryz.call35⟩|refine cpe gq ?_|exact cSd|apply qd []|refine exr ?_|refine qk ?_)
    ·rw [if_neg fun h=>ht h.2] at g7
     rw [g7];apply qf [];repeat' (first|apply And.intro|(intro h;try exact cDd)|exact⟨Tryz.call35⟩|refine cpe gq ?_|exact cSd|apply qd []|refine exr ?_|refine qk ?_)
     all_goals exact absurd ht (by assumption)
   |num n=>
    have gq:=fun st=>qmm acc st (.num n) hB (by omega) he fun h=>by
     have:=(qf0 acc).1 (by rw [he];exact h);rw [he] at this;simp at this
    rw [if_neg fun h=>by rw [he] at h;simp at h] at g7;rw [g7];apply qf []
    repeat' (first|apply And.intro|(intro h;try exact cDd)|exact⟨Tryz.call35⟩|refine cpe gq ?_|exact cSd|apply qd []|refine exr ?_|refine qk ?_)
   |at' a n=>
    have gq:=fun st=>qmm acc st (.at' a n) hB (by omega) he fun h=>by
     have:=(qf0 acc).1 (by rw [he];exact h);rw [he] at this;simp at this
    rw [if_neg fun h=>by rw [he] at h;simp at h] at g7;rw [g7];apply qf [];repeat' (first|apply And.intro|(intro h;try exact cDd)|exact⟨Tryz.call35⟩|refine cpe gq ?_|exact cSd|apply qd []|refine exr ?_|refine qk ?_)
theorem qs8:zc8 E:=fun _ _ _ h hb hB _ h2=>h _ (hb.trans (h2.mono hB))
theorem zer : (Tryz.prog.fieldsOf 98).toList = [⟨ "Key", 9, 0, false, "", "", 0⟩, ⟨ "Value", 9, 1, false, "", "", 16⟩] := by kernel_rfl
theorem zeq (a b c d:ByteArray) (w:World):(Op.equalIn 10000 98 (.agg #[.string a,.string b]) (.agg #[.string c,.string d])).run Tryz.prog w = .ok (a.toList == c.toList && b.toList == d.toList) w:=by
 rw [run_equalIn_agg w 9999 98 _ _ (by kernel_rfl) (by kernel_rfl),zer];have p1:∀ (x y:ByteArray) w,(part 9 #[.string x,.string y] 0).run Tryz.prog w = .ok (.string x) w:=fun x y w=>by kernel_rfl
 have p2:∀ (x y:ByteArray) w,(part 9 #[.string x,.string y] 1).run Tryz.prog w = .ok (.string y) w:=fun x y w=>by kernel_rfl
 have hs:∀ (x y:ByteArray) w,(Op.equalIn 9999 9 (.string x) (.string y)).run Tryz.prog w = .ok (x.toList == y.toList) w:=fun x y w=>run_equalIn_string w 9998 9 x y (by kernel_rfl);simp only [Op.eqFields,Sem.run_bind,Sem.run_ite,p1,p2,hs,Result.andThen_ok,Sem.run_pure]
 cases hac:(a.toList == c.toList) <;> cases hbd:(b.toList == d.toList) <;> simp
theorem q29 {G:Gh} {f:Fld} {v:Value} (h:Rel G (fldA f) v):v = .agg #[.string ⟨f.1.toArray⟩,.string ⟨f.2.toArray⟩]:=by
 cases h with
 |ag _ vs hl h=>
  match vs,hl with
  | ⟨[x,y]⟩,_=>
   have h1:=h 0 _ x rfl rfl;have h2:=h 1 _ y rfl rfl
   cases h1
   cases h2
   rfl
theorem zfk (f g:Fld) (w:World):(binOp .neq 98 (.agg #[.string ⟨f.1.toArray⟩,.string ⟨f.2.toArray⟩]) (.agg #[.string ⟨g.1.toArray⟩,.string ⟨g.2.toArray⟩])).run Tryz.prog w = .ok (.bool (decide (f≠g))) w:=by
 rw [run_neq_struct,zeq];simp only [Result.andThen_ok,ByteArray.toList_eq];obtain⟨a,b⟩:=f;obtain⟨c,d⟩:=g;congr 2;by_cases h1:a=c <;> by_cases h2:b=d <;> simp [h1,h2]
section
variable {N : Nat} {ops : Array Oper} {K : AS → Prop} {s : AS} {rest : List Oper} {d : Option Tmp} {T : TypeId} {p : String} {af : Array Edge}
theorem q6k {x y:Operand} {t':TypeId} {f g:Fld} {b:Bool} (hx:qi N s x=fldA f) (hy:qi N s y=fldA g) (hb:decide (f≠g)=b)
  (h:AQ E N ops rest K (s.put d (Bv b))):AQ E N ops (⟨d,.binOp .neq 98 x y t',T,p,af,none⟩::rest) K s:=by
 subst hb;refine qc3 rfl nofun fun B0 w0 G a w _ hI=>⟨.bool (decide (f≠g)),_,fun w' _=>?_,.v _,h⟩;have h1:=q29 (hI.eval_of hx);have h2:=q29 (hI.eval_of hy);generalize a.eval = ρ at h1 h2;have hg:(eqGuard .neq 98 x y (.agg #[.string ⟨f.1.toArray⟩,.string ⟨f.2.toArray⟩]) (.agg #[.string ⟨g.1.toArray⟩,.string ⟨g.2.toArray⟩])).run Tryz.prog w' = .ok () w':=run_eqGuard_agg w' _ _ _ _ _ _ (by kernel_rfl);simp [execOp,h1,h2,hg,zfk]
end
theorem qcy {α : Type} [DecidableEq α] {a b:List α} {k:Nat} {d : α} (hl:a.length=b.length) (hk:k<a.length) (h:a.take k=b.take k) (h2:a.getD k d=b.getD k d):a.take (k+1)=b.take (k+1):=by
 rw [List.take_succ_eq_append_getElem hk,List.take_succ_eq_append_getElem (by omega),h];congr 2
 simpa [List.getD,hk,show k<b.length by omega] using h2
theorem q7r (a b:List Fld) (st:List AObj) (ha:a.length<9223372036854775808):qn E 58 [zl a,zl b] st fun r st'=>r=Bv (decide (a=b))∧st'=st:=by
 refine zb (q8 _) (qr Tryz.func58 rfl (Nat.le_of_ble_eq_true rfl) ?_);have hma:(a.map fldA).length=a.length:=by simp
 have hmb:(b.map fldA).length=b.length:=by simp
 by_cases hl:a.length=b.length
 ·skip
  repeat' (first|apply qm|apply qt|apply qg|apply qh|apply ql|apply qj|(apply qu;(iterate 3 exact rfl))|(apply qe;exact rfl;apply wv;exact cAo)|(apply z6;(iterate 4 exact rfl))|apply qw)
  refine jx (fun (k:Nat) s=>k≤a.length∧a.take k=b.take k∧StE [(0,zl a),(1,zl b),(12,Iv a.length),(13,Iv k)] st [] s) (fun k=>a.length - k) 0 ⟨by omega,by simp,qb8 ⟨rfl,rfl,congrArg (fun n:Nat=>Iv (n:Int)) hma,rfl,trivial⟩ rfl⟩ ?_;rintro k _ ⟨hk,ht,t,ext,rfl⟩;by_cases hc:k<a.length
  ·by_cases he:a.getD k ([],[])=b.getD k ([],[])
   ·have hn:decide (a.getD k ([],[])≠b.getD k ([],[]))=false:=decide_eq_false fun h=>h he
    repeat' (first|apply qm|apply qt|apply qg|apply qh|apply ql|apply qj|(apply qu;(iterate 3 exact rfl))|(apply qe;exact rfl;apply vk;exact cAo)|(apply qe;exact rfl;apply cd_f;exact cRa)|(apply zn;exact rfl;exact rfl;exact zg (by omega) (by omega))|(apply qhn;exact rfl;kernel_rfl)|apply qfx|(apply qep;(iterate 3 exact rfl))|apply qd2|apply qw|(apply qbk (n:=k);(iterate 5 exact rfl);exact qku (xs:=a) (by omega))|(apply qbk (n:=k);(iterate 5 exact rfl);exact qku (xs:=b) (by omega))|(apply q6k;exact rfl;exact rfl;exact hn))
    exact⟨k+1,⟨by omega,qcy hl hc ht he,y3 ⟨rfl,rfl,rfl,rfl,trivial⟩ rfl⟩,by omega⟩
   ·have hn:decide (a.getD k ([],[])≠b.getD k ([],[]))=true:=decide_eq_true he
    have hab:¬ a=b:=fun e=>he (by rw [e]);repeat' (first|apply qm|apply qt|apply qg|apply qh|apply ql|apply qj|(apply qu;(iterate 3 exact rfl))|(apply qe;exact rfl;apply vk;exact cAo)|(apply qe;exact rfl;apply cd_t;exact cRa)|(apply qhn;exact rfl;kernel_rfl)|apply qfx|(apply qep;(iterate 3 exact rfl))|apply qd2|apply qw|apply q6|(apply qbk (n:=k);(iterate 5 exact rfl);exact qku (xs:=a) (by omega))|(apply qbk (n:=k);(iterate 5 exact rfl);exact qku (xs:=b) (by omega))|(apply q6k;exact rfl;exact rfl;exact hn))
    exact qo rfl (zf rfl) ⟨congrArg Bv (decide_eq_false hab).symm,yb _ _ _ _⟩
  ·have hab:a=b:=by
    have e:k=a.length:=by omega
    rw [e,List.take_length,List.take_of_length_le (by omega)] at ht;exact ht
   repeat' (first|apply qm|apply qg|apply qh|apply qj|(apply qu;(iterate 3 exact rfl))|(apply qe;exact rfl;apply wv;exact cAo)|apply ji|apply q6)
   exact qo rfl (zf rfl) ⟨congrArg Bv (decide_eq_true hab).symm,yb _ _ _ _⟩
 ·have hab:¬ a=b:=fun e=>hl (by rw [e])
  repeat' (first|apply qm|apply qg|apply qh|apply ql|apply qj|(apply qu;(iterate 3 exact rfl))|(apply qe;exact rfl;apply vk;exact cAo)|(apply z6;(iterate 4 exact rfl))|apply q6)
  exact qo rfl (zf rfl) ⟨congrArg Bv (decide_eq_false hab).symm,_,rfl⟩
end Go.Proofs.YtapblfabkbdgcaaGreatDoor
namespace Go.Pl
open Go Go.Proofs Go.Proofs.YtapblfabkbdgcaaGreatDoor
theorem ww (s:qc) (r:List qc):ze (s::r)=s++10::ze r:=by simp [ze]
theorem qcq:∀ (ls:List qc),(∀ s∈ls,10∉s)→zj (ze ls)=ls.map fun s=>(s,true)
 | [],_=>by simp [ze,kq]
 |s::r,h=>by
  have hs:=h s (by simp);rw [ww,vr (by simp),wg _ hs,w7 _ hs,qcq r fun x hx=>h x (by simp [hx])];simp
theorem q1h {f:Fld} (h:j9 f):∀ s∈zm f,10∉s:=fun s hs=>by
 unfold zm at hs;rcases List.mem_cons.1 hs with rfl|hs
 ·have h1:=qdb f.2 _ (qpi f.2)
  have h2:=h.1.2.2.2.2.2;unfold jy;split <;> simp_all
 ·obtain⟨x,hx,rfl⟩:=List.mem_map.1 hs
  have h1:=qdb f.2 x (List.mem_of_mem_tail hx);have:=qsj h1;simp [this]
theorem qm1 {f:Fld} (h:j9 f):∃ hd mr,zm f=hd::mr∧qs hd=4∧∀ s∈mr,qs s=3:=by
 refine⟨_,_,rfl,qu3 h.1 (qdb f.2 _ (qpi f.2)),fun s hs=>?_⟩;obtain⟨x,hx,rfl⟩:=List.mem_map.1 hs;exact qu4 x (qdb f.2 x (List.mem_of_mem_tail hx))
theorem q9t {p:PSt} {k:Int} {t:qc} (ht:qs t=3) (hl:p.lines≠[]):v6 p k t true=(none,{ p with lines:=p.lines++[t],block:=p.block++[t] }):=by
 have ha:jd p k t true (qs t)=(none,{ p with lines:=p.lines++[t] }):=by
  unfold jd;rw [if_pos ht,if_neg hl,if_pos rfl]
 unfold v6;rw [ha,ht];simp
theorem qvp {p q:PSt} {k:Int} {t:qc} (ht:qs t=4) (hf:jn p=(none,q)):v6 p k t true=(none,{ kf q k t with block:=q.block++[t] }):=by
 have ha:jd p k t true (qs t)=(none,q):=by
  unfold jd;rw [if_neg (by omega),if_neg (by omega)];exact hf
 unfold v6;rw [ha,ht];simp
theorem qp0:∀ (m:List qc) (k:Nat) (p:PSt) (ls:List (qc×Bool)),(∀ s∈m,qs s=3)→p.lines≠[] →
  runL k (m.map (fun s=>(s,true))++ls) p=runL (k+m.length) ls { p with lines:=p.lines++m,block:=p.block++m }
 | [],k,p,ls,_,_=>by simp
 |s::m,k,p,ls,h,hl=>by
  have hs:=h s (by simp);rw [List.map_cons,List.cons_append,runL,q9t hs hl];simp only;rw [qp0 m (k+1) _ ls (fun x hx=>h x (by simp [hx])) (by simp)];simp only [List.append_assoc,List.cons_append,List.nil_append,List.length_cons];congr 1;omega
theorem qq9 {g:Fld} (hg:j9 g) (frm:Int) (its:List za) (blk:List qc) (done:List Fld) (rc:Int):jn ⟨zm g,frm,false,its,blk,done,rc⟩=(none,⟨[],frm,false,its,blk,done++[g],rc⟩):=by
 have hu:=qv8 hg;unfold jn;rw [if_neg (by simp [zm]),hu];simp
theorem qzx:∀ (r:List Fld) (done:List Fld) (g:Fld) (k:Nat) (frm:Int) (blk:List qc),j9 g→(∀ f∈r,j9 f)→done.length+1+r.length≤40→blk≠[] →
  (runL k ((r.flatMap zm).map fun s=>(s,true)) ⟨zm g,frm,false,[],blk,done,0⟩).1=none∧(runL k ((r.flatMap zm).map fun s=>(s,true)) ⟨zm g,frm,false,[],blk,done,0⟩).2.items=[⟨3,ze (blk++r.flatMap zm),done++g::r⟩]
 | [],done,g,k,frm,blk,hg,_,_,hb=>by
  have he:endP ⟨zm g,frm,false,[],blk,done,0⟩=(none,xm ⟨[],frm,false,[],blk,done++[g],0⟩):=by
   unfold endP;rw [qq9 hg]
  simp only [List.flatMap_nil,List.map_nil,runL,he,List.append_nil];refine⟨trivial,?_⟩;unfold xm;rw [if_neg hb]
  simp
 |f::r,done,g,k,frm,blk,hg,hr,hl,hb=>by
  have hf:=hr f (by simp);obtain⟨hd,mr,hlf,hk4,lg⟩:=qm1 hf;simp only [List.length_cons] at hl
  have a8:runL k (((f::r).flatMap zm).map fun s=>(s,true)) ⟨zm g,frm,false,[],blk,done,0⟩=runL (k+1+mr.length) ((r.flatMap zm).map fun s=>(s,true)) ⟨zm f,k,false,[],blk++zm f,done++[g],0⟩:=by
   rw [List.flatMap_cons,List.map_append,hlf,List.map_cons,List.cons_append,runL,qvp hk4 (qq9 hg frm [] blk done 0)];simp only;rw [qp0 mr (k+1) _ _ lg (by simp [kf])]
   have hfu:decide ((done++[g]).length=40∨((done++[g]).length=0∧(0:Int)=400))=false:=by
    simp;omega
   simp only [kf,hfu,List.append_assoc,List.cons_append,List.nil_append]
  rw [a8];have ih:=qzx r (done++[g]) f (k+1+mr.length) k (blk++zm f) hf (fun x hx=>hr x (by simp [hx])) (by simp;omega) (by simp [hb]);rw [ih.1,ih.2];simp [List.flatMap_cons]
theorem qgw (fs:List Fld):z0 fs=ze (fs.flatMap zm):=by
 induction fs with
 |nil=>rfl
 |cons f r ih=>
  rw [List.flatMap_cons,x6,← ih];simp [z0]
theorem qiv {fs:List Fld} (h:∀ f∈fs,j9 f):∀ s∈fs.flatMap zm,10∉s:=fun s hs=>by
 obtain⟨f,hf,hs⟩:=List.mem_flatMap.1 hs;exact q1h (h f hf) s hs
theorem qr3 {fs:List Fld} (hg:GF fs) (b8:fs≠[]):jj (z0 fs)=(none,[⟨3,z0 fs,fs⟩]):=by
 have hl:=qcq _ (qiv hg.2);rw [← qgw] at hl
 cases fs with
 |nil=>exact absurd rfl b8
 |cons f r=>
  have hf:=hg.2 f (by simp);obtain⟨hd,mr,hlf,hk4,lg⟩:=qm1 hf;have b9:=hg.1;simp only [List.length_cons] at b9
  have a8:runL 0 (((f::r).flatMap zm).map fun s=>(s,true)) p0=runL (0+1+mr.length) ((r.flatMap zm).map fun s=>(s,true)) ⟨zm f,(0:Nat),false,[],zm f,[],0⟩:=by
   have g8:jn p0=(none,p0):=rfl;rw [List.flatMap_cons,List.map_append,hlf,List.map_cons,List.cons_append,runL,qvp hk4 g8];simp only;rw [qp0 mr (0+1) _ _ lg (by simp [kf])];simp [kf,p0]
  have ih:=qzx r [] f (0+1+mr.length) (0:Nat) (zm f) hf (fun x hx=>hg.2 x (by simp [hx])) (by simp;omega) (by simp [zm]);unfold jj;rw [hl,a8,ih.1];simp only;rw [ih.2];rw [qgw,List.flatMap_cons,List.nil_append]
theorem q8s:jj []=(none,[]):=by
 unfold jj;rw [kq];rfl
theorem qor {ls:List qc} (h:∀ s∈ls,10∉s):xz [32,32] (ze ls)=ze (ls.map fun s=>[32,32]++s):=by
 unfold xz indF;rw [qcq ls h];simp only [ze,List.flatMap_map,wn,if_pos]
theorem qyk {ls:List qc} (h:∀ s∈ls,10∉s):∀ s∈ls.map (fun s=>[32,32]++s),10∉s:=fun s hs=>by
 obtain⟨x,hx,rfl⟩:=List.mem_map.1 hs;have:=h x hx;simp [this]
theorem qv4 {ls:List qc} (h:∀ s∈ls,10∉s):vi [32,32] (xz [32,32] (ze ls))=(ze ls,true):=by
 rw [qor h];unfold vi;rw [qcq _ (qyk h),if_pos]
 ·simp [ze,List.flatMap_map,wn]
 ·intro x hx
  obtain⟨s,hs,rfl⟩:=List.mem_map.1 hx;obtain⟨y,_,rfl⟩:=List.mem_map.1 hs;exact List.prefix_append _ _
theorem qv6 {fs:List Fld} (hl:fs.length≤40) (hg:∀ f∈fs,j9 f):qck (xz [32,32] (z0 fs))=(fs,true):=by
 have hd:vi [32,32] (xz [32,32] (z0 fs))=(z0 fs,true):=by
  rw [qgw];exact qv4 (qiv hg)
 unfold qck;rw [hd];simp only;by_cases h0:fs=[]
 ·subst h0
  have hp:jj (z0 [])=(none,[]):=q8s;rw [hp];simp [yu,z0]
 ·rw [qr3 ⟨hl,hg⟩ h0]
  simp [yu]
theorem q42 {j k:Int} {s:qc} (hj:j=1∨j=2∨j=3) (hk:k=1∨k=2∨k=3) (b8:j≠k):¬ qac j <+: qac k++s:=by
 rintro⟨t,ht⟩;have h2:=congrArg (List.take 2) ht;rcases hj with rfl|rfl|rfl <;> rcases hk with rfl|rfl|rfl <;> first|exact absurd rfl b8|(revert h2;simp [qac])
theorem q6v {x:qq} (hk:x.kind=1∨x.kind=2∨x.kind=3) (h1 : -9223372036854775808≤x.id) (h2:x.id≤9223372036854775807):begE (ko x)=some (x.kind,x.id):=by
 have hl:ko x=qac x.kind++Lib.itoa x.id:=by
  unfold ko;rw [if_pos (by omega)]
 have l9:tryB x.kind (ko x)=some x.id:=by
  unfold tryB;rw [hl,if_pos (List.prefix_append _ _),List.drop_left,qqs h1 h2]
 have i6:∀ j:Int,(j=1∨j=2∨j=3)→j≠x.kind→tryB j (ko x)=none:=fun j hj b8=>by
  unfold tryB;rw [hl,if_neg (q42 hj hk b8)]
 unfold begE;rcases hk with h|h|h
 ·rw [h] at l9 i6 ⊢
  rw [l9]
 ·rw [h] at l9 i6 ⊢
  rw [i6 1 (by simp) (by decide),l9]
 ·rw [h] at l9 i6 ⊢
  rw [i6 1 (by simp) (by decide),i6 2 (by simp) (by decide),l9]
def qbu (x:qq):List qc:=(x.fields.flatMap zm).map fun s=>[32,32]++s
theorem qos (v:Int):∀ c∈Lib.itoa v,c≠10∧c≠32:=fun c hc=>by
 by_cases hv:v<0
 ·rw [qhz hv] at hc
  rcases List.mem_cons.1 hc with rfl|hc
  ·decide
  ·have:=xb _ _ (Nat.le_refl _) c hc
   constructor <;> rintro rfl <;> simp at this
 ·rw [qk1 (by omega)] at hc
  have:=xb _ _ (Nat.le_refl _) c hc;constructor <;> rintro rfl <;> simp at this
theorem qcp (x:qq):10∉ko x:=by
 unfold ko;split
 ·rename_i hk
  have h1:=qos x.id;intro hc;rcases List.mem_append.1 hc with hc|hc
  ·have:x.kind=1∨x.kind=2∨x.kind=3:=by omega
   rcases this with h|h|h <;> rw [h] at hc <;> revert hc <;> decide
  ·exact (h1 10 hc).1 rfl
 ·simp
theorem q1d {x:qq} (hk:x.kind=1∨x.kind=2∨x.kind=3):¬ [32,32] <+: ko x:=by
 unfold ko;rw [if_pos (by omega)];rintro⟨t,ht⟩;have h2:=congrArg (List.take 2) ht;rcases hk with h|h|h <;> rw [h] at h2 <;> revert h2 <;> simp [qac]
theorem qfo {x:qq} (hg:∀ f∈x.fields,j9 f):jm x=ze (ko x::qbu x):=by
 unfold jm qbu;rw [ww,qgw,qor (qiv hg)];simp
theorem q62 {x:qq} (hg:∀ f∈x.fields,j9 f):∀ s∈qbu x,10∉s:=qyk (qiv hg)
theorem qda (text:qc):∀ (m:List qc) (k a f:Nat) (R:qc),(∀ s∈m,10∉s∧[32,32] <+: s)→∃ k',xn text (vf k a (ze m++R)) f=xn text (vf k' (a+(ze m).length) R) f
 | [],k,a,f,R,_=>⟨k,by simp [ze]⟩
 |s::m,k,a,f,R,h=>by
  obtain⟨f0,hp⟩:=h s (by simp);have e:ze (s::m)++R=s++10::(ze m++R):=by rw [ww];simp
  obtain⟨k',ih⟩:=qda text m (k+1) (a+s.length+1) f R fun x hx=>h x (by simp [hx]);refine⟨k',?_⟩;rw [e,qbe (by simp),wg _ f0,w7 _ f0,xn,if_neg (fun h=>h.2 hp),ih,ww];congr 2;simp;omega
theorem qmf {x:qq} (hg:∀ f∈x.fields,j9 f):∀ s∈qbu x,10∉s∧[32,32] <+: s:=fun s hs=>⟨q62 hg s hs,by
 obtain⟨y,_,rfl⟩:=List.mem_map.1 hs
 exact List.prefix_append _ _⟩
structure EncG (x:qq):Prop where
 kind:x.kind=1∨x.kind=2∨x.kind=3
 len:x.fields.length≤40
 good:∀ f∈x.fields,j9 f
 id1 : -9223372036854775808≤x.id
 id2:x.id≤9223372036854775807
theorem qr4:∀ (r:List qq) (D:qc) (x:qq) (k:Nat),EncG x→(∀ y∈r,EncG y) →
  xn (D++(jm x++encF r)) (vf k (D.length+((ko x).length+1)) (ze (qbu x)++encF r)) D.length=jm x::r.map jm
 | [],D,x,k,hx,_=>by
  obtain⟨k',h⟩:=qda (D++(jm x++encF [])) (qbu x) k (D.length+((ko x).length+1)) D.length (encF []) (qmf hx.good);rw [h];have e:encF []=[]:=rfl;rw [e,qao,xn]
  simp
 |y::r,D,x,k,hx,hr=>by
  have hy:=hr y (by simp);obtain⟨k',h⟩:=qda (D++(jm x++encF (y::r))) (qbu x) k (D.length+((ko x).length+1)) D.length (encF (y::r)) (qmf hx.good);rw [h]
  have e:encF (y::r)=ko y++10::(ze (qbu y)++encF r):=by
   have:encF (y::r)=jm y++encF r:=by simp [encF]
   rw [this,qfo hy.good,ww];simp
  have hlx:(jm x).length=(ko x).length+1+(ze (qbu x)).length:=by
   rw [qfo hx.good,ww];simp;omega
  have e2:encF (y::r)=jm y++encF r:=by simp [encF]
  have bc:D.length+((ko x).length+1)+(ze (qbu x)).length=(D++jm x).length:=by
   rw [List.length_append,hlx];omega
  rw [bc]
  have hc:vf k' (D++jm x).length (encF (y::r))=⟨k',(D++jm x).length,ko y,true⟩::vf (k'+1) ((D++jm x).length+(ko y).length+1) (ze (qbu y)++encF r):=by
   rw [e,qbe (by simp),wg _ (qcp y),w7 _ (qcp y)];simp
  have d5:D.length<(D++jm x).length:=by rw [List.length_append,hlx];omega
  rw [hc,xn,if_pos ⟨d5,q1d hy.kind⟩];have ih:=qr4 r (D++jm x) y (k'+1) hy fun z hz=>hr z (by simp [hz]);have et:D++(jm x++encF (y::r))=(D++jm x)++(jm y++encF r):=by rw [e2];simp
  rw [et]
  have ed:((D++jm x++(jm y++encF r)).take (D++jm x).length).drop D.length=jm x:=by
   rw [List.take_left,List.drop_left]
  rw [ed,List.map_cons];simp only;rw [show (D++jm x).length+(ko y).length+1=(D++jm x).length+((ko y).length+1) by omega,ih]
theorem q8x {x:qq} {r:List qq} (hx:EncG x) (hr:∀ y∈r,EncG y):qdl (encF (x::r))=(x::r).map jm:=by
 have e2:encF (x::r)=jm x++encF r:=by simp [encF]
 have e:encF (x::r)=ko x++10::(ze (qbu x)++encF r):=by
  rw [e2,qfo hx.good,ww];simp
 have h:=qr4 r [] x 1 hx hr;simp only [List.nil_append,List.length_nil,Nat.zero_add] at h
 have hc:lns (encF (x::r))=⟨0,0,ko x,true⟩::vf 1 ((ko x).length+1) (ze (qbu x)++encF r):=by
  unfold lns;rw [e,qbe (by simp),wg _ (qcp x),w7 _ (qcp x)];simp
 unfold qdl;rw [hc,xn,if_neg (by simp),e2,h];rfl
theorem qxu:∀ (r acc:List qq),(∀ y∈r,EncG y)→acc.length+r.length≤40→decP (r.map jm) acc=some (acc++r)
 | [],acc,_,_=>by simp [decP]
 |x::r,acc,h,hl=>by
  have hx:=h x (by simp);simp only [List.length_cons] at hl
  have hu:upto 10 (jm x)=ko x:=by
   unfold jm;rw [List.append_assoc];exact wg _ (qcp x)
  have hp:past 10 (jm x)=xz [32,32] (z0 x.fields):=by
   unfold jm;rw [List.append_assoc];exact w7 _ (qcp x)
  have g8:=qv6 hx.len hx.good;rw [List.map_cons,decP,hu,q6v hx.kind hx.id1 hx.id2];simp only [hp,g8];rw [if_pos ⟨trivial,by omega⟩];have ih:=qxu r (acc++[⟨x.kind,x.id,x.fields⟩]) (fun y hy=>h y (by simp [hy])) (by simp;omega);rw [ih];simp
theorem q2p {x:qq} (h:gErr x = .no) (hB:EdB x):EncG x:=by
 obtain⟨h1,h2⟩:=qd9 h;refine⟨?_,h1,h2,hB.id1,hB.id2⟩;unfold gErr at h;split at h
 ·exact .inr (.inl (by assumption))
 ·split at h
  ·rename_i hk;omega
  ·simp at h
theorem zec {b:List qq} (he:eErr b = .no) (hB:∀ x∈b,EdB x) (hl:(encF b).length≤50000):decF (encF b)=some b:=by
 obtain⟨h1,tk,hg⟩:=qb4 he;have hG:∀ y∈b,EncG y:=fun y hy=>q2p (hg y hy) (hB y hy);unfold decF;rw [if_neg (by omega)]
 cases b with
 |nil=>simp at h1
 |cons x r=>
  rw [q8x (hG x (by simp)) (fun y hy=>hG y (by simp [hy])),qxu (x::r) [] hG (by simp at tk ⊢;omega)];simp only [List.nil_append];rw [if_pos ⟨he,trivial⟩]
theorem qe6 {text:qc} {b:List qq} (h:decF text=some b):eErr b = .no∧encF b=text∧text.length≤50000:=by
 unfold decF at h;split at h
 ·simp at h
 ·split at h
  ·simp at h
  ·split at h
   ·rename_i hc
    cases h
    exact⟨hc.1,hc.2,by omega⟩
   ·simp at h
def SpL (L:List qc):Prop:=L≠[]∧∀ s∈L,10∉s∧[32] <+: s
def encL (b:List qq):List qc:=b.flatMap fun x=>ko x::qbu x
theorem q7m {b:List qq} (hg:∀ x∈b,EncG x):encF b=ze (encL b):=by
 induction b with
 |nil=>rfl
 |cons x r ih=>
  have e:encL (x::r)=(ko x::qbu x)++encL r:=by simp [encL]
  have e2:encF (x::r)=jm x++encF r:=by simp [encF]
  rw [e,x6,e2,qfo (hg x (by simp)).good,ih fun y hy=>hg y (by simp [hy])]
theorem ze9 {x:qq} (hk:x.kind=1∨x.kind=2∨x.kind=3):[32] <+: ko x:=by
 unfold ko;rw [if_pos (by omega)];rcases hk with h|h|h <;> rw [h] <;> exact⟨_,rfl⟩
theorem zep {b:List qq} (b8:b≠[]) (hg:∀ x∈b,EncG x):SpL (encL b):=by
 refine⟨?_,fun s hs=>?_⟩
 ·cases b with
  |nil=>exact absurd rfl b8
  |cons x r=>simp [encL]
 ·obtain⟨x,hx,hs⟩:=List.mem_flatMap.1 hs
  have hG:=hg x hx;rcases List.mem_cons.1 hs with rfl|hs
  ·exact⟨qcp x,ze9 hG.kind⟩
  ·obtain⟨h1,t,ht⟩:=qmf hG.good s hs
   exact⟨h1,[32]++t,by rw [← ht];rfl⟩
theorem zga {L:List qc} (h:SpL L):sp true (ze L)=true:=by
 rw [← qk3 _ (ze L) (Nat.le_refl _),qcq L fun s hs=>(h.2 s hs).1];intro x hx;obtain⟨s,hs,rfl⟩:=List.mem_map.1 hx;exact (h.2 s hs).2
theorem q9v {L:List qc} (h:SpL L):(ze L)[0]? = some 32:=by
 obtain⟨b8,hs⟩:=h
 cases L with
 |nil=>exact absurd rfl b8
 |cons s r=>
  obtain⟨t,ht⟩:=(hs s (by simp)).2;rw [ww,← ht];rfl
theorem qvr:∀ (L:List qc),L≠[]→(ze L).getLast? = some 10
 | [],h=>absurd rfl h
 | [s],_=>by rw [ww];simp [ze]
 |s::t::r,_=>by
  have ih:=qvr (t::r) (by simp);have b8:ze (t::r)≠[]:=fun e=>by rw [e] at ih;simp at ih
  rw [ww,List.getLast?_append,List.getLast?_cons,ih];simp
theorem q7n {b:List qq} (he:eErr b = .no) (hB:∀ x∈b,EdB x) (hl:(encF b).length≤50000):qfp (encF b):=by
 obtain⟨h1,tk,hg⟩:=qb4 he;have hG:∀ y∈b,EncG y:=fun y hy=>q2p (hg y hy) (hB y hy);have b8:b≠[]:=fun e=>by subst e;simp at h1
 have hS:=zep b8 hG;have ht:=q7m hG;have hh:=q9v hS;have i5:=qvr _ hS.1;rw [← ht] at hh i5;have fm:=zga hS;rw [← ht] at fm;refine⟨?_,hl,i5,by rw [qiq];exact fm⟩;rcases hc:encF b with _ | ⟨c,_ | ⟨d,r⟩⟩
 ·rw [hc] at hh;simp at hh
 ·rw [hc] at hh i5
  simp at hh i5;rw [hh] at i5;simp at i5
 ·simp
end Go.Pl
namespace Go.Proofs.YtapblfabkbdgcaaGreatDoor
open Go Go.Av Go.RowKit Go.Proofs Go.Pl
theorem q7k {xs:List qq} {k:Nat} (hk:k<xs.length):(xs.map je)[k]? = some (je (xs.getD k ⟨0,0,[]⟩)):=by
 simp [List.getD,hk]
def q6b (b:List qq):Prop:=b.length≤51∧∀ x∈b,zc9 x.fields
def ArgE (b:List qq):Prop:=b.length<9223372036854775808∧∀ x∈b,x.fields.length<9223372036854775808∧-9223372036854775808≤x.id∧x.id≤9223372036854775807
theorem ze8 {b:List qq} (hA:ArgE b) (h:q6b b):∀ x∈b,EdB x:=fun x hx=>⟨fun f hf=>((h.2 x hx).val f hf).1,(hA.2 x hx).1,(hA.2 x hx).2.1,(hA.2 x hx).2.2⟩
theorem zh5 {x:qq}:∀ y∈[je x],Pure y:=by
 intro y hy;simp only [List.mem_cons,List.not_mem_nil,or_false] at hy;subst hy;exact qaq (qfn x)
theorem qkb {l:qc} {i:Nat} {c:UInt8} (h:l[i]? = some c):l.getD i 0=c:=by simp [List.getD,h]
def ArgX (x:qq):Prop:=x.fields.length<9223372036854775808∧-9223372036854775808≤x.id∧x.id≤9223372036854775807
theorem zbs:Opn Tryz.prog 55 fun a=>∃ x:qq,a=je x∧ArgX x:=by
 intro H enc W fuel cs x h
 obtain⟨a,⟨vs,rfl,hl,hv⟩,hr⟩:=qk6 (As:=[(some (.int .i64),IsI .i64),(some (.int .i64),IsI .i64),(some (.slice 98),fun a=>∃ xs:List FldV,a=zl xs∧xs.length≤maxLen)]) (by kernel_rfl) (by kernel_rfl) (by kernel_rfl) (by kernel_rfl)
  (List.forall_mem_cons.2 ⟨⟨fun _ h=>qwo h,qwn _⟩,List.forall_mem_cons.2 ⟨⟨fun _ h=>qwo h,qwn _⟩,List.forall_mem_cons.2 ⟨⟨fun _ h=>zbt h,zbr⟩,nofun⟩⟩⟩) H enc W fuel cs x h
 match vs,hl with
 | [v0,v1,v2],_=>
  obtain⟨n0,rfl,w0⟩:=hv 0 _ _ rfl rfl;obtain⟨n1,rfl,w1⟩:=hv 1 _ _ rfl rfl;obtain⟨xs,rfl,m⟩:=hv 2 _ _ rfl rfl;exact⟨_,⟨⟨n0,n1,xs⟩,rfl,q75 m,lit_i64 w1⟩,hr⟩
theorem qw1 {α : Type} {g : α→AV} {P : α→Prop}:∀ {xs:List AV},(∀ x∈xs,∃ a,x=g a∧P a)→∃ ys:List α,xs=ys.map g∧∀ a∈ys,P a
 | [],_=>⟨[],rfl,by simp⟩
 |x::r,h=>by
  obtain⟨ys,gr,has⟩:=qw1 (xs:=r) fun y hy=>h y (List.mem_cons_of_mem _ hy);obtain⟨a,rfl,ha⟩:=h x (by simp);subst gr;refine⟨a::ys,rfl,fun b hb=>?_⟩;rcases List.mem_cons.1 hb with rfl|hb
  ·exact ha
  ·exact has b hb
theorem q8l {t:TypeId} (hu:Tryz.prog.underlying t=some (.slice 55)):Opn Tryz.prog t fun a=>∃ xs:List qq,a=jo xs∧ArgE xs:=by
 intro H enc W fuel cs x h;obtain⟨a,⟨xs,rfl,hl,hx⟩,hr⟩:=q8m (sz:=3) hu (by kernel_rfl) (by decide) zbs H enc W fuel cs x h;obtain⟨rs,rfl,hrs⟩:=qw1 hx;exact⟨_,⟨rs,rfl,q75 (by simpa using hl),hrs⟩,hr⟩
theorem q8j:One fun a=>∃ xs:List qq,a=jo xs∧ArgE xs:=by rintro _ ⟨xs,rfl,_⟩;rfl
end Go.Proofs.YtapblfabkbdgcaaGreatDoor
namespace Go.Proofs.YtapblfabkbdgcaaGreatDoor
open Go Go.Av Go.RowKit Go.WideShapes Go.ChangeShapes Go.Deep Go.Proofs Go.Pl
theorem zgv {H:Type} {enc:TypeId×Value→H} {P:Program} {W:World} {r:Reach} {b0:Nat} {t:TypeId} {fs:Array Field} {S:AV→Prop} {v:Value} {d:DataW H} {ps:List MemPlace} (hu:P.underlying t=some (.struct fs)) (hO:Opn P t S) (hS:∀ a,S a→∃ us,a = .ag us) (dw:Value.okWide P W r b0 t v) (hd:DataW.Trod enc P W 0 (fun _=>true) true t v d ps) :
  ∃ a,S a∧Rel (gW W) a v:=by
 obtain⟨cs,rfl,_⟩:=okWide_struct hu dw;obtain⟨fuel,hf⟩:=hd;obtain⟨y,hy,hr⟩:=hO H enc W fuel _ _ hf;obtain⟨us,rfl⟩:=hS y hy;exact⟨_,hy,.ag us cs (by simpa [AV.cells,Value.cells] using hr.1) fun i x z hx hz=>hr.2 i x z hx (by simpa [Value.cells] using hz)⟩
end Go.Proofs.YtapblfabkbdgcaaGreatDoor
namespace Go.Proofs.YtapblfabkbdgcaaGreatDoor
open Go Go.Av Go.RowKit Go.Proofs Go.Pl
theorem zfz {a b:qc}:∀ x∈[Sv a,Sv b],Pure x:=by
 intro x hx;simp only [List.mem_cons,List.not_mem_nil,or_false] at hx;rcases hx with rfl|rfl <;> exact q8 _
theorem zfy {a:List Fld}:∀ x∈[zl a],Pure x:=by
 intro x hx;simp only [List.mem_cons,List.not_mem_nil,or_false] at hx;subst hx;exact y4 _
theorem q7l {b:List qq} {k:Nat} (hk:k<b.length):encF (b.take (k+1))=((encF (b.take k)++ko (b.getD k ⟨0,0,[]⟩))++[10])++xz [32,32] (z0 (b.getD k ⟨0,0,[]⟩).fields):=by
 rw [List.take_succ_eq_append_getElem hk,qxy,qxz];have e:b.getD k ⟨0,0,[]⟩=b[k]:=by simp [List.getD,hk]
 rw [e];unfold jm;simp [List.append_assoc]
set_option maxHeartbeats 2000000 in
theorem qwc (b:List qq) (st:List AObj) (hB:∀ x∈b,EdB x) (he:eErr b = .no):qn E 38 [jo b] st fun r st'=>r=Sv (encF b)∧st'=st:=by
 refine zb (q8 _) (qr Tryz.func38 rfl (Nat.le_of_ble_eq_true rfl) ?_);have g9:(b.map je).length=b.length:=by simp
 obtain⟨o8,hb40,hg⟩:=qb4 he;repeat' (first|apply qm|apply qt|apply qg|apply qh|apply qj)
 refine jx (fun (k:Nat) s=>k≤b.length∧StE [(0,jo b),(3,Sv (encF (b.take k))),(4,Iv k)] st [] s) (fun k=>b.length - k) 0 ⟨by omega,qb8 ⟨rfl,rfl,rfl,trivial⟩ rfl⟩ ?_;rintro k _ ⟨hk,t,ext,rfl⟩;by_cases hc:k<b.length
 ·have hm:b.getD k ⟨0,0,[]⟩∈b:=by simp [List.getD,hc]
  have hxb:=hB _ hm;have hxg:=hg _ hm;have p9:=q7l hc;have s0:=qho (b.take k) (fun y hy=>hB y (List.mem_of_mem_take hy)) (fun y hy=>hg y (List.mem_of_mem_take hy));have c8:(b.map je)[k]? = some (je (b.getD k ⟨0,0,[]⟩)):=q7k hc;generalize b.getD k ⟨0,0,[]⟩=x at hm hxb hxg p9 c8;obtain⟨g8,hfg⟩:=qd9 hxg;have nj:=qm0 x hxb.id1 hxb.id2;have hfo:=qd7 x.fields hfg;have dk:=qjo (z0 x.fields);have cd:(b.take k).length≤40:=by rw [List.length_take];omega
  repeat' (first|apply qm|apply qt|apply qg|apply qh|apply ql|apply qj|(apply qu;(iterate 3 exact rfl))|(apply qe;exact rfl;apply vk;exact cAo)|(apply z6;(iterate 4 exact rfl))|(apply zn;exact rfl;exact rfl;exact zg (by omega) (by omega))|(apply qhn;exact rfl;kernel_rfl)|apply qfx|(apply qih;exact rfl;exact rfl;exact cOs)|(apply qep;(iterate 3 exact rfl))|(apply qii;(iterate 4 exact rfl))|apply qd2|apply qmd|apply qw|(apply qbk (n:=k);(iterate 5 exact rfl);exact c8)|(refine qo4 (args:=[je x]) qs8 Tryz.call69 rfl zh5 (qz6 _) (fun _=>.v _) (q85 x _ hxb.id1 hxb.id2) ?_)|(refine qo4 (args:=[zl x.fields]) qs8 Tryz.call71 rfl zfy (qz6 _) (fun _=>.v _) (q5n x.fields _ (qyg g8 hfg)) ?_)|(refine qo4 (args:=[Sv (z0 x.fields),Sv [32,32]]) qs8 Tryz.call70 rfl zfz (qz6 _) (fun _=>.v _) (q1s (z0 x.fields) [32,32] _ (by omega) (by decide)) ?_))
  exact⟨k+1,⟨by omega,y3 ⟨rfl,congrArg Sv p9.symm,rfl,trivial⟩ rfl⟩,by omega⟩
 ·have e:k=b.length:=by omega
  subst e;rw [List.take_length];repeat' (first|apply qm|apply qg|apply qh|apply ql|apply qj|(apply qu;(iterate 3 exact rfl))|(apply qe;exact rfl;apply wv;exact cAo)|(apply z6;(iterate 4 exact rfl))|apply ji|apply q6)
  exact qo rfl (zf rfl) ⟨rfl,yb _ _ _ _⟩
theorem q7b:∀ (ps:List qc) (acc b:List qq),(∀ x∈acc,EdB x)→decP ps acc=some b→∀ x∈b,EdB x
 | [],acc,b,h,e=>by
  rw [decP] at e
  cases e
  exact h
 |p::r,acc,b,h,e=>by
  rw [decP] at e;split at e
  ·simp at e
  ·rename_i k n hb
   split at e
   ·refine q7b r _ b (fun x hx=>?_) e
    rcases List.mem_append.1 hx with hx|hx
    ·exact h x hx
    ·obtain rfl:=List.mem_singleton.1 hx
     exact q7i (qs1 hb).1 (qs1 hb).2 (qom _)
   ·simp at e
theorem zg2 {text:qc} {b:List qq} (h:decF text=some b):∀ x∈b,EdB x:=by
 unfold decF at h;split at h
 ·simp at h
 ·split at h
  ·simp at h
  ·rename_i c hc
   split at h
   ·cases h
    exact q7b _ _ _ (by simp) hc
   ·simp at h
end Go.Proofs.YtapblfabkbdgcaaGreatDoor
namespace Go.Pl
open Go Go.Proofs Go.Proofs.YtapblfabkbdgcaaGreatDoor
def OutG (out:List qq) (m:Nat):Prop:=∀ x∈out,(∀ f∈x.fields,j9 f)∧x.fields.length≤m∧-9223372036854775808≤x.id∧x.id≤9223372036854775807
theorem OutG.mono {out:List qq} {m m':Nat} (h:OutG out m) (hm:m≤m'):OutG out m':=fun x hx=>⟨(h x hx).1,by have:=(h x hx).2.1;omega,(h x hx).2.2⟩
end Go.Pl
namespace Go.Pl
open Go Go.Proofs
def vc:List (qc×Bool)→List qc
 | []=>[]
 |(t,_)::r=>if qs t=3 then t::vc r else []
def j7 (prev:Bool) (t:qc) (e:Bool) (r:List (qc×Bool)) (fields:Nat) (records:Int):Int:=
 if qs t=5∨(qs t=3∧prev=false)∨e=false then 2
 else if qs t≠4 then 0
 else if (jt (t::vc r)).2≠0 then (jt (t::vc r)).2
 else if 40≤fields∨(fields=0∧400≤records) then 11 else 0
theorem q02 {α : Type} {l:List α} {x : α} (h:l.getLast? = some x):l.dropLast++[x]=l:=by
 have b8:l≠[]:=fun e=>by subst e;simp at h
 rw [List.getLast?_eq_some_getLast b8] at h;obtain rfl:=Option.some.inj h;exact List.dropLast_concat_getLast b8
def outR (now:za) (out:List za):List za:=if now.raw=[] then out else out++[now]
def refL:Nat→List (qc×Bool)→Bool→za→Int→List za→Option (Int×Int)×List za
 | _,[],_,now,_,out=>(none,outR now out)
 |i,(t,e)::r,prev,now,rec,out=>
  if j7 prev t e r now.fields.length rec≠0 then (some ((i:Int),j7 prev t e r now.fields.length rec),[])
  else if qs t=1 then refL (i+1) r false ⟨2,[],[]⟩ rec (outR now out++[⟨1,t++[10],[]⟩])
  else if qs t=4 then refL (i+1) r true ⟨3,now.raw++t++[10],now.fields++[(jt (t::vc r)).1]⟩ (if now.kind=2 then rec+1 else rec) out
  else refL (i+1) r (decide (qs t=3)) ⟨now.kind,now.raw++t++[10],now.fields⟩ rec out
def qwg:List (qc×Bool)→Prop
 | []=>True
 |(_,e)::r=>(e=false→r=[])∧qwg r
theorem qou:∀ (n:Nat) (l:qc),l.length≤n→qwg (zj l)
 | 0,l,h=>by
  have:l=[]:=List.length_eq_zero_iff.1 (by omega);subst this;rw [kq]
  trivial
 |n+1,l,h=>by
  by_cases hl:l=[]
  ·subst hl
   rw [kq];trivial
  ·rw [vr hl]
   refine⟨fun he=>?_,qou n _ (by have:=xo (c:=10) hl;omega)⟩;have f0:10∉l:=by simpa using he
   have:past 10 l=[]:=by
    unfold past;rw [qb0 f0];exact List.drop_eq_nil_of_le (by omega)
   rw [this,kq]
def qdk (ls:List qc) (full:Bool):Int:=if (jt ls).2≠0 then (jt ls).2 else if full=true then 11 else 0
theorem qgv {p:PSt} (h:p.lines≠[]) (hc:qdk p.lines p.full≠0):(jn p).1=some (p.frm,qdk p.lines p.full):=by
 unfold qdk at *;unfold jn;rw [if_neg h];by_cases h1:(jt p.lines).2≠0
 ·rw [if_pos h1,if_pos h1]
 ·rw [if_neg h1] at hc ⊢
  rw [if_neg h1];by_cases h2:p.full=true
  ·rw [if_pos h2,if_pos h2]
  ·rw [if_neg h2] at hc
   exact absurd rfl hc
theorem quw {p:PSt} (h:p.lines=[]∨qdk p.lines p.full=0):jn p=(none,{ p with lines:=[],fields:=p.fields++(if p.lines=[] then [] else [(jt p.lines).1]) }):=by
 unfold jn;by_cases h0:p.lines=[]
 ·rw [if_pos h0,if_pos h0]
  obtain⟨a,b,c,d,e,f,g⟩:=p;simp only at h0;subst h0;simp
 ·rw [if_neg h0,if_neg h0]
  have h:=h.resolve_left h0;unfold qdk at h;by_cases h1:(jt p.lines).2≠0
  ·rw [if_pos h1] at h
   exact absurd h h1
  ·rw [if_neg h1] at h ⊢
   by_cases h2:p.full=true
   ·rw [if_pos h2] at h
    simp at h
   ·rw [if_neg h2]
theorem qp5 {p:PSt} {no:Int} {t:qc} {e:Bool} {x:Int×Int} (h:(jd p no t e (qs t)).1=some x):(v6 p no t e).1=some x:=by
 unfold v6;rw [h]
theorem qp6 {p q:PSt} {no:Int} {t:qc} {e:Bool} (h:jd p no t e (qs t)=(none,q)) (hc:qs t=5∨e=false):(v6 p no t e).1=some (no,2):=by
 unfold v6;rw [h];simp only;rw [if_pos hc]
theorem qkh {p q:PSt} {no:Int} {t:qc} (h:jd p no t true (qs t)=(none,q)) (hc:qs t≠5):v6 p no t true =
  if qs t=1 then (none,{ q with items:=q.items++[⟨1,t++[10],[]⟩] }) else if qs t=4 then (none,{ kf q no t with block:=q.block++[t] }) else (none,{ q with block:=q.block++[t] }):=by
 unfold v6;rw [h];simp only;rw [if_neg (by simp [hc])]
theorem qeg {k:Nat} {t:qc} {e:Bool} {r:List (qc×Bool)} {p:PSt} {x:Int×Int} (h:(v6 p k t e).1=some x):(runL k ((t,e)::r) p).1=some x:=by
 rw [runL,h]
theorem qf8 {k:Nat} {t:qc} {e:Bool} {r:List (qc×Bool)} {p q:PSt} (h:v6 p k t e=(none,q)):runL k ((t,e)::r) p=runL (k+1) r q:=by
 rw [runL,h]
theorem qqf {p:PSt} {no:Int} {t:qc} (hk:qs t=3) (hl:p.lines≠[]):jd p no t true (qs t)=(none,{ p with lines:=p.lines++[t] }):=by
 unfold jd;rw [if_pos hk,if_neg hl,if_pos rfl]
theorem qqe {p:PSt} {no:Int} {t:qc} (hk:qs t=3) (hl:p.lines≠[]):jd p no t false (qs t)=jn { p with lines:=p.lines++[t] }:=by
 unfold jd;rw [if_pos hk,if_neg hl,if_neg (by simp)]
theorem qfk {p:PSt} {no:Int} {t:qc} {e:Bool} (hk:qs t≠3) (h1:qs t≠1):jd p no t e (qs t)=jn p:=by
 unfold jd;rw [if_neg hk,if_neg h1]
theorem qjg {p:PSt} {no:Int} {t:qc} {e:Bool} (h1:qs t=1):jd p no t e (qs t)=endP p:=by
 unfold jd;rw [if_neg (by omega),if_pos h1]
theorem qrq {t:qc} {e:Bool} {r:List (qc×Bool)} (h:qs t≠3):vc ((t,e)::r)=[]:=by
 rw [vc,if_neg h]
theorem qjt {t:qc} {e:Bool} {r:List (qc×Bool)} (h:qs t=3):vc ((t,e)::r)=t::vc r:=by
 rw [vc,if_pos h]
theorem qx0 {p:PSt} {x:Int×Int} (h:(jn p).1=some x):(endP p).1=some x:=by
 unfold endP;rw [h]
theorem qs6 {p q:PSt} (h:jn p=(none,q)):endP p=(none,xm q):=by
 unfold endP;rw [h]
theorem qzh:∀ (r:List (qc×Bool)) (p:PSt) (k:Nat) (c:Int),qwg r→p.lines≠[]→qdk (p.lines++vc r) p.full=c→c≠0→(runL k r p).1=some (p.frm,c)
 | [],p,k,c,_,hl,hc,h0=>by
  rw [vc,List.append_nil] at hc;rw [runL];subst hc
  exact qx0 (qgv hl h0)
 |(t,e)::r,p,k,c,hE,hl,hc,h0=>by
  by_cases h3:qs t=3
  ·rw [qjt h3] at hc
   cases e with
   |true=>
    have ht:=qkh (qqf (no:=k) h3 hl) (by omega);rw [if_neg (by omega),if_neg (by omega)] at ht;rw [qf8 ht]
    exact qzh r _ (k+1) c hE.2 (by simp) (by simpa using hc) h0
   |false=>
    have hr:=hE.1 rfl;subst hr;refine qeg (qp5 ?_);rw [qqe h3 hl];have gn:qdk (p.lines++[t]) p.full=c:=hc;have:=qgv (p:={ p with lines:=p.lines++[t] }) (by simp) (by simp only;rw [gn];exact h0);simp only at this;rw [this,gn]
  ·rw [qrq h3,List.append_nil] at hc
   subst hc;refine qeg (qp5 ?_);by_cases h1:qs t=1
   ·rw [qjg h1]
    exact qx0 (qgv hl h0)
   ·rw [qfk h3 h1]
    exact qgv hl h0
structure Sim (r:List (qc×Bool)) (p:PSt) (prev:Bool) (now:za) (rec:Int) (out:List za):Prop where
 hprev:prev=decide (p.lines≠[])
 hok:p.lines=[]∨qdk (p.lines++vc r) p.full=0
 hraw:now.raw=ze p.block
 hfields:now.fields=p.fields++(if p.lines=[] then [] else [(jt (p.lines++vc r)).1])
 hkind:now.kind=if now.fields=[] then 2 else 3
 hrec:rec=p.records+if now.fields=[] then 0 else 1
 hout:out=p.items
 hempty:p.block=[]→p.lines=[]∧p.fields=[]
 b1:now.fields.length≤40
 b2:rec≤400
theorem q9u (b:List qc):ze b=[]↔b=[]:=by
 cases b with
 |nil=>simp [ze]
 |cons x r=>simp [ze]
theorem qlr (b:List qc) (t:qc):ze (b++[t])=ze b++t++[10]:=by simp [ze]
theorem Sim.flush {r:List (qc×Bool)} {p:PSt} {prev:Bool} {now:za} {rec:Int} {out:List za} (h:Sim r p prev now rec out) (hm:vc r=[]):jn p=(none,{ p with lines:=[],fields:=now.fields }):=by
 have h1:=h.hok;have h2:=h.hfields;rw [hm,List.append_nil] at h1 h2;rw [quw h1,h2]
theorem Sim.close {r:List (qc×Bool)} {p:PSt} {prev:Bool} {now:za} {rec:Int} {out:List za} (h:Sim r p prev now rec out) (hm:vc r=[]):xm { p with lines:=[],fields:=now.fields }={ p with lines:=[],fields:=[],block:=[],items:=outR now out,records:=rec }:=by
 have hk:=h.hkind;have hr:=h.hrec;have hw:=h.hraw;have ho:=h.hout;unfold xm outR;simp only;by_cases hb:p.block=[]
 ·obtain⟨e1,e2⟩:=h.hempty hb
  have hf:now.fields=[]:=by rw [h.hfields,e1,e2];simp
  rw [if_pos hb,if_pos (by rw [hw,hb];rfl),ho,hr,hf];simp
 ·have b8:¬ now.raw=[]:=by rw [hw,q9u];exact hb
  rw [if_neg hb,if_neg b8,ho,hr,← hw];obtain⟨nk,nr,nf⟩:=now;simp only at hk b8 ⊢;by_cases hf:nf=[]
  ·rw [if_pos hf] at hk
   simp [hf,hk,b8]
  ·rw [if_neg hf] at hk
   simp [hf,hk,b8]
theorem qke:∀ (r:List (qc×Bool)) (k:Nat) (p:PSt) (prev:Bool) (now:za) (rec:Int) (out:List za),qwg r→Sim r p prev now rec out →
  refL k r prev now rec out=match (runL k r p).1 with
   |some e=>(some e,[])
   |none=>(none,(runL k r p).2.items)
 | [],k,p,prev,now,rec,out,_,h=>by
  rw [runL,qs6 (h.flush rfl),h.close rfl,refL]
 |(t,e)::r,k,p,prev,now,rec,out,hE,h=>by
  rw [refL];by_cases h3:qs t=3
  ·by_cases hl:p.lines=[]
   ·have hp:prev=false:=by rw [h.hprev];simp [hl]
    have hw:j7 prev t e r now.fields.length rec=2:=by
     unfold j7;rw [if_pos (.inr (.inl ⟨h3,hp⟩))]
    rw [hw,if_pos (by decide),qeg (x:=((k:Int),2)) (qp5 (by unfold jd;rw [if_pos h3,if_pos hl]))]
   ·cases e with
    |true=>
     have hp:prev=true:=by rw [h.hprev];simp [hl]
     have hw:j7 prev t true r now.fields.length rec=0:=by
      unfold j7;rw [if_neg (by simp [hp];omega),if_pos (by omega)]
     have ht:=qkh (qqf (no:=k) h3 hl) (by omega);rw [if_neg (by omega),if_neg (by omega)] at ht;rw [hw,if_neg (by simp),if_neg (by omega),if_neg (by omega),qf8 ht];have hm:=qjt (e:=true) (r:=r) h3;have hok:=h.hok.resolve_left hl;have hfs:=h.hfields;rw [if_neg hl,hm] at hfs;rw [hm] at hok
     refine qke r (k+1) _ _ _ _ _ hE.2 ⟨by simp [h3],.inr (by simpa using hok),by rw [qlr,← h.hraw],by simp [hfs],h.hkind,h.hrec,h.hout,by simp,h.b1,h.b2⟩
    |false=>
     have hr:=hE.1 rfl;subst hr
     have hw:j7 prev t false [] now.fields.length rec=2:=by
      unfold j7;rw [if_pos (.inr (.inr rfl))]
     have hok:=h.hok.resolve_left hl;rw [qjt h3] at hok;have hf:=quw (p:={ p with lines:=p.lines++[t] }) (.inr hok);rw [hw,if_pos (by decide),qeg (x:=((k:Int),2)) (qp6 ((qqe h3 hl).trans hf) (.inr rfl))]
  ·have hm:=qrq (e:=e) (r:=r) h3
   have hf:=h.flush hm;have hc:=h.close hm;by_cases pz:qs t=5∨e=false
   ·have hw:j7 prev t e r now.fields.length rec=2:=by
     unfold j7;rw [if_pos (by rcases pz with h|h;exact .inl h;exact .inr (.inr h))]
    rw [hw,if_pos (by decide)];by_cases h1:qs t=1
    ·rw [qeg (x:=((k:Int),2)) (qp6 ((qjg h1).trans (qs6 hf)) pz)]
    ·rw [qeg (x:=((k:Int),2)) (qp6 ((qfk h3 h1).trans hf) pz)]
   ·have he:e=true:=by
     cases e with
     |true=>rfl
     |false=>exact absurd (.inr rfl) pz
    have h5:qs t≠5:=fun h=>pz (.inl h);subst he;by_cases h1:qs t=1
    ·have hw:j7 prev t true r now.fields.length rec=0:=by
      unfold j7;rw [if_neg (by simp [h3,h5]),if_pos (by omega)]
     have ht:=qkh ((qjg (no:=k) h1).trans (qs6 hf)) h5;rw [if_pos h1,hc] at ht;rw [hw,if_neg (by simp),if_pos h1,qf8 ht];exact qke r (k+1) _ _ _ _ _ hE.2 ⟨by simp,.inl rfl,rfl,by simp,by simp,by simp,rfl,by simp,by simp,h.b2⟩
    ·by_cases h4:qs t=4
     ·have ht:=qkh ((qfk (no:=k) h3 h1).trans hf) h5
      rw [if_neg h1,if_pos h4] at ht;rw [qf8 ht];have o8:=h.b1;have bm:=h.b2;have hrec:=h.hrec
      have mj:(40≤now.fields.length∨(now.fields.length=0∧400≤rec))↔(now.fields.length=40∨(now.fields.length=0∧p.records=400)):=by
       by_cases hz:now.fields=[]
       ·rw [if_pos hz] at hrec
        simp only [hz,List.length_nil];constructor
        ·rintro (h'|h')
         ·exact absurd h' (by decide)
         ·exact .inr ⟨trivial,by omega⟩
        ·rintro (h'|h')
         ·exact absurd h' (by decide)
         ·exact .inr ⟨trivial,by omega⟩
       ·have:now.fields.length≠0:=fun h=>hz (List.length_eq_zero_iff.1 h)
        constructor
        ·rintro (h'|h')
         ·exact .inl (by omega)
         ·exact absurd h'.1 this
        ·rintro (h'|h')
         ·exact .inl (by omega)
         ·exact absurd h'.1 this
      have hw:j7 prev t true r now.fields.length rec=qdk (t::vc r) (decide (now.fields.length=40∨(now.fields.length=0∧p.records=400))):=by
       unfold j7 qdk;rw [if_neg (by simp [h3,h5]),if_neg (by omega)];by_cases hu:(jt (t::vc r)).2≠0
       ·rw [if_pos hu,if_pos hu]
       ·rw [if_neg hu,if_neg hu]
        by_cases hx:40≤now.fields.length∨(now.fields.length=0∧400≤rec)
        ·rw [if_pos hx,if_pos (decide_eq_true (mj.1 hx))]
        ·rw [if_neg hx,if_neg (by simpa using fun h=>hx (mj.2 h))]
      by_cases td:j7 prev t true r now.fields.length rec=0
      ·rw [if_neg (by simp [td]),if_neg h1,if_pos h4]
       have hx:¬ (40≤now.fields.length∨(now.fields.length=0∧400≤rec)):=fun hx=>by
        unfold j7 at td;rw [if_neg (by simp [h3,h5]),if_neg (by omega)] at td;by_cases hu:(jt (t::vc r)).2≠0
        ·rw [if_pos hu] at td;exact hu td
        ·rw [if_neg hu,if_pos hx] at td;simp at td
       rw [hw] at td;refine qke r (k+1) _ _ _ _ _ hE.2 ⟨by simp [kf],.inr td,by simp only [kf];rw [qlr,← h.hraw],by simp [kf],by simp,?_,h.hout,by simp [kf],by simp;omega,?_⟩
       ·have pd:=h.hkind
        simp only [kf];by_cases hz:now.fields=[]
        ·rw [if_pos hz] at hrec pd
         rw [pd];simp;omega
        ·rw [if_neg hz] at hrec pd
         rw [pd];simp;omega
       ·rw [h.hkind]
        by_cases hz:now.fields=[]
        ·have:now.fields.length=0:=by rw [hz];rfl
         rw [if_pos hz,if_pos rfl];omega
        ·rw [if_neg hz,if_neg (by decide)]
         exact bm
      ·rw [if_pos td]
       have:=qzh r { kf { p with lines:=[],fields:=now.fields } k t with block:=p.block++[t] } (k+1) (j7 prev t true r now.fields.length rec) hE.2 (by simp [kf]) hw.symm td;simp only [kf] at this ⊢;rw [this]
     ·have hw:j7 prev t true r now.fields.length rec=0:=by
       unfold j7;rw [if_neg (by simp [h3,h5]),if_pos h4]
      have ht:=qkh ((qfk (no:=k) h3 h1).trans hf) h5;rw [if_neg h1,if_neg h4] at ht;rw [hw,if_neg (by simp),if_neg h1,if_neg h4,qf8 ht];exact qke r (k+1) _ _ _ _ _ hE.2 ⟨by simp [h3],.inl rfl,by rw [qlr,← h.hraw],by simp,h.hkind,h.hrec,h.hout,by simp,h.b1,h.b2⟩
theorem qft (text:qc):refL 0 (zj text) false ⟨2,[],[]⟩ 0 []=jj text:=by
 unfold jj;exact qke (zj text) 0 p0 false ⟨2,[],[]⟩ 0 [] (qou _ text (Nat.le_refl _)) ⟨by simp [p0],.inl rfl,rfl,by simp [p0],by simp,by simp [p0],rfl,by simp [p0],by simp,by omega⟩
end Go.Pl
namespace Go.Pl
open Go Go.Proofs Go.Proofs.YtapblfabkbdgcaaGreatDoor
def genL:qc:=[35,37,103,101,110,32]
def qce (n:Int):qc:=genL++Lib.itoa n++[10,10]
def qev (n:Int):Prop:=1≤n∧n≤2147483648
instance (n:Int):Decidable (qev n):=inferInstanceAs (Decidable (_∧_))
def qbh (text:qc):Int×qc:=
 if genL <+: text then
  match numZ (upto 10 (text.drop 6)) with
  |some n=>if qev n∧[10,10] <+: text.drop (6+(upto 10 (text.drop 6)).length) then (n,text.drop (8+(upto 10 (text.drop 6)).length)) else (0,text)
  |none=>(0,text)
 else (0,text)
theorem qrk (v:Int):(10:UInt8)∉Lib.itoa v:=by
 intro h;by_cases hv:v<0
 ·rw [qhz hv] at h
  rcases List.mem_cons.1 h with h|h
  ·simp at h
  ·have:=xb _ _ (Nat.le_refl _) _ h
   simp at this
 ·rw [qk1 (by omega)] at h
  have:=xb _ _ (Nat.le_refl _) _ h;simp at this
theorem qys (n:Int) (r:qc):qce n++r=genL++(Lib.itoa n++10::10::r):=by simp [qce]
theorem qlp {n:Int} (h:qev n) (r:qc):qbh (qce n++r)=(n,r):=by
 unfold qbh;have hd:(genL++(Lib.itoa n++10::10::r)).drop 6=Lib.itoa n++10::10::r:=by rw [show (6:Nat)=genL.length by rfl,List.drop_left]
 rw [qys,if_pos (List.prefix_append _ _),hd,wg _ (qrk n),q78 (by have:=h.1;omega) (by have:=h.2;omega)];have e1:(genL++(Lib.itoa n++10::10::r)).drop (6+(Lib.itoa n).length)=10::10::r:=by rw [← List.drop_drop,hd,List.drop_left]
 have e2:(genL++(Lib.itoa n++10::10::r)).drop (8+(Lib.itoa n).length)=r:=by
  rw [show 8+(Lib.itoa n).length=(6+(Lib.itoa n).length)+2 by omega,← List.drop_drop,e1];rfl
 simp only;rw [e1,e2,if_pos ⟨h,r,rfl⟩]
theorem qvo {text:qc} (h:∀ n r,qev n→text≠qce n++r):qbh text=(0,text):=by
 unfold qbh;split
 ·rename_i hp
  obtain⟨t,rfl⟩:=hp;have hd:(genL++t).drop 6=t:=by rw [show (6:Nat)=genL.length by rfl,List.drop_left]
  rw [hd];split
  ·rename_i n hn
   split
   ·rename_i hc
    obtain⟨hg,r,hr⟩:=hc;rw [← List.drop_drop,hd] at hr;obtain⟨he,_⟩:=q79 hn;refine absurd ?_ (h n r hg);rw [qys,← he];congr 1
    conv=>lhs;rw [← List.take_append_drop (upto 10 t).length t,qjf,← hr]
    rfl
   ·rfl
  ·rfl
 ·rfl
theorem q11 (text:qc):(∃ n r,qev n∧text=qce n++r∧qbh text=(n,r))∨((∀ n r,qev n→text≠qce n++r)∧qbh text=(0,text)):=by
 by_cases h:∃ n r,qev n∧text=qce n++r
 ·obtain⟨n,r,hg,rfl⟩:=h
  exact .inl ⟨n,r,hg,rfl,qlp hg r⟩
 ·have h':∀ n r,qev n→text≠qce n++r:=fun n r hg e=>h ⟨n,r,hg,e⟩
  exact .inr ⟨h',qvo h'⟩
def qbx (n:Int):qc:=if qev n then qce n else []
theorem q12 (text:qc):text=qbx (qbh text).1++(qbh text).2∧((qbh text).1=0∨qev (qbh text).1):=by
 rcases q11 text with⟨n,r,hg,he,ht⟩ | ⟨_,ht⟩
 ·rw [ht]
  simp only;unfold qbx;rw [if_pos hg];exact⟨he,.inr hg⟩
 ·rw [ht]
  exact⟨rfl,.inl rfl⟩
def begF (l:qc):Bool:=decide (l.head? = some 37∧qs l=5)
def q61 (n:Nat) (l:qc):Nat:=if h:l=[] then n else if begF (upto 10 l)=true then n - l.length else q61 n (past 10 l)
 termination_by l.length
 decreasing_by exact xo h
theorem qg4:∀ (r:List (qc×Bool)) (k:Nat) (prev:Bool) (now:za) (rec:Int) (out:List za),(refL k r prev now rec out).1=none→∀ x∈r,qs x.1≠5∧x.2=true
 | [],_,_,_,_,_,_=>by simp
 |(t,e)::r,k,prev,now,rec,out,h=>by
  rw [refL] at h;split at h
  ·simp at h
  ·rename_i hw
   have hx:qs t≠5∧e=true:=by
    unfold j7 at hw;split at hw
    ·simp at hw
    ·rename_i hc
     exact⟨fun h5=>hc (.inl h5),by cases e with|true=>rfl|false=>exact absurd (.inr (.inr rfl)) hc⟩
   have hr:∀ x∈r,qs x.1≠5∧x.2=true:=by
    split at h
    ·exact qg4 r _ _ _ _ _ h
    ·split at h
     ·exact qg4 r _ _ _ _ _ h
     ·exact qg4 r _ _ _ _ _ h
   intro x d7;rcases List.mem_cons.1 d7 with rfl|d7
   ·exact hx
   ·exact hr x d7
theorem q1l {text:qc} (h:(jj text).1=none):∀ x∈zj text,begF x.1=false∧x.2=true:=fun x hx=>by
 rw [← qft] at h;obtain⟨h1,h2⟩:=qg4 _ _ _ _ _ _ h x hx;exact⟨by simp [begF,h1],h2⟩
theorem qil {n:Nat} {fig l:qc} (hf:qbl fig) (h:l <+: yr n fig) (b8:l≠[]):begF l=true:=by
 have f0:10∉l:=qth h (qew n hf)
 have h58:(58:UInt8)∉l:=qth h fun h'=>by
  unfold yr at h';rcases List.mem_append.1 h' with h'|h'
  ·revert h';decide
  ·rcases List.mem_append.1 h' with h'|h'
   ·exact qrx n (by decide) h'
   ·rcases List.mem_cons.1 h' with h'|h'
    ·simp at h'
    ·exact qmt hf (by decide) h'
 obtain⟨c,q,rfl⟩:=List.exists_cons_of_ne_nil b8
 have hc:c=37:=by
  obtain⟨t,ht⟩:=h;unfold yr wq at ht;exact (List.cons.inj ht).1
 subst hc
 have hk:=qot f0 (fun hb=>by
  have:=hb 37 (by simp);revert this
  decide)
 simp only [begF,List.head?_cons,true_and,decide_eq_true_eq];rw [hk.2];rw [if_neg (by simp),if_neg (by simp [v4]),if_neg (fun h=>h58 h.1)]
theorem q60 {n:Nat} {fig body l:qc} (hf:qbl fig) (h:l <+: recL n fig body) (b8:l≠[]):begF (upto 10 l)=true:=by
 rcases qvj (show l <+: yr n fig++10::(body++qha n) from h) with h | ⟨r,rfl,hr⟩
 ·rw [qb0 (qth h (qew n hf))]
  exact qil hf h b8
 ·cases r with
  |nil=>
   rw [List.append_nil,qb0 (qew n hf)]
   exact qil hf (List.prefix_refl _) (by simp [yr,wq])
  |cons c r=>
   have:c=10:=by obtain⟨t,ht⟩:=hr;exact (List.cons.inj ht).1
   subst this;rw [wg _ (qew n hf)];exact qil hf (List.prefix_refl _) (by simp [yr,wq])
theorem zd1 {b:qc} (x:qc) (hg:qfp b):begF (upto 10 (recF b++x))=true:=by
 rw [zf0];have hx:qbl (sumF b):=q07 (addP 0 b);unfold recL;rw [List.append_assoc,List.cons_append,wg _ (qew _ hx)];exact qil hx (List.prefix_refl _) (by simp [yr,wq])
structure qek where
 gen:Int
 base:qc
 batches:List (List qq)
 ends : List Int
 tail:qc
def q37:qek:=⟨0,[],[],[],[]⟩
def kv (text:qc):ErrV:=if 60000<text.length then .num 1 else match (jj text).1 with
 |none=>.no
 |some (a,n)=>.at' a n
def yu:Nat→qc→Int→List (List qq)→List Int→Bool×List (List qq)×List Int×qc
 | 0,l,_,bs,es=>(false,bs,es,l)
 |f+1,l,a,bs,es=>
  if (qa4 l).1=2 then (false,bs,es,l)
  else if (qa4 l).1=1 then match decF (qa4 l).2.1 with
   |some b=>yu f (l.drop (qa4 l).2.2.toNat) (a+(qa4 l).2.2) (bs++[b]) (es++[a+(qa4 l).2.2])
   |none=>(true,bs,es,l)
  else (true,bs,es,l)
def qsc (text:qc):qc:=(qbh text).2
def atH (text:qc):Nat:=q61 (qsc text).length (qsc text)
def zdb (text:qc):qc:=(qsc text).take (atH text)
def qr8 (text:qc):Bool×List (List qq)×List Int×qc:=yu (text.length+1) ((qsc text).drop (atH text)) (((text.length - (qsc text).length+atH text:Nat)):Int) [] []
def zdc (text:qc):ErrV×qek:=
 if 120000<text.length then (.num 1,q37)
 else match kv (zdb text) with
  | .no=>if (qr8 text).1=true then (.at' (qr8 text).2.1.length 10,q37) else (.no,⟨(qbh text).1,zdb text,(qr8 text).2.1,(qr8 text).2.2.1,(qr8 text).2.2.2⟩)
  |e=>(e,q37)
structure qkj (b:List qq):Prop where
 ok:eErr b = .no
 B:∀ x∈b,EdB x
 len:(encF b).length≤50000
theorem qkj.good {b:List qq} (h:qkj b):qfp (encF b):=q7n h.ok h.B h.len
theorem za7 {t:qc} {b:List qq} (h:decF t=some b):qkj b∧encF b=t:=by
 obtain⟨h1,h2,h3⟩:=qe6 h;exact⟨⟨h1,zg2 h,by rw [h2];exact h3⟩,h2⟩
def recE (b:List qq):qc:=recF (encF b)
def qag (bs:List (List qq)):qc:=bs.flatMap recE
def qdq (a:Int):List (List qq)→List Int
 | []=>[]
 |b::r=>(a+(recE b).length)::qdq (a+(recE b).length) r
theorem qlf (b:List qq) (r:List (List qq)):qag (b::r)=recE b++qag r:=rfl
theorem q5m (r:List (List qq)) (b:List qq):qag (r++[b])=qag r++recE b:=by simp [qag]
theorem qq6:∀ (r:List (List qq)) (a:Int) (b:List qq),qdq a (r++[b])=qdq a r++[a+(qag r).length+(recE b).length]
 | [],a,b=>by simp [qdq,qag]
 |x::r,a,b=>by
  rw [List.cons_append,qdq,qdq,qq6 r,qlf];simp;omega
theorem qq5:∀ (r:List (List qq)) (a:Int),r≠[]→(qdq a r).getLast? = some (a+(qag r).length)
 | [],_,h=>absurd rfl h
 | [x],a,_=>by simp [qdq,qag]
 |x::y::r,a,_=>by
  have:=qq5 (y::r) (a+(recE x).length) (by simp);rw [qdq,List.getLast?_cons];rw [this,qlf x];simp;omega
structure qb9 (text:qc) (b:qek):Prop where
 txt:text=qbx b.gen++(b.base++(qag b.batches++b.tail))
 gen:qbh text=(b.gen,b.base++(qag b.batches++b.tail))
 parse:kv b.base = .no
 good:∀ x∈b.batches,qkj x
 tail:(qa4 b.tail).1=2
 ends : b.ends = qdq ((qbx b.gen).length + b.base.length) b.batches
 len:text.length≤120000
def BegP (x:qc):Prop:=x=[]∨begF (upto 10 x)=true
theorem q6z {t:qc} (h:(qa4 t).1=2):BegP t:=by
 by_cases h0:t=[]
 ·exact .inl h0
 ·obtain⟨n,fig,body,R,hp,_⟩:=zfm h
  obtain⟨_,_,_,_,_,hx⟩:=R;exact .inr (q60 hx hp h0)
theorem q6y {bs:List (List qq)} {t:qc} (hg:∀ b∈bs,qkj b) (h:(qa4 t).1=2):BegP (qag bs++t):=by
 cases bs with
 |nil=>exact q6z h
 |cons b r=>
  refine .inr ?_;rw [qlf,List.append_assoc];exact zd1 _ (hg b (by simp)).good
theorem q6x {x:qc} (h:BegP x):x=[]∨x.head? = some 37:=by
 rcases h with h|h
 ·exact .inl h
 ·simp only [begF,decide_eq_true_eq] at h
  cases x with
  |nil=>exact .inl rfl
  |cons c r=>
   refine .inr ?_;have h1:=h.1;unfold upto at h1;by_cases hc:c=10
   ·subst hc;simp at h1
   ·simpa [hc] using h1
theorem qze {l:qc} (h:kv l = .no):(∀ p∈zj l,begF p.1=false∧p.2=true)∧l.length≤60000:=by
 unfold kv at h;split at h
 ·simp at h
 ·split at h
  ·rename_i hp
   exact⟨q1l hp,by omega⟩
  ·simp at h
def qcz (b:qek):qc:=qbx b.gen++(b.base++qag b.batches)
def qng (b:qek):Int:=match b.ends.getLast? with
 |some e=>e
 |none=>((qbx b.gen).length+b.base.length:Nat)
theorem qb9.split {text:qc} {b:qek} (h:qb9 text b):text=qcz b++b.tail:=by
 have:=h.txt;unfold qcz
 simpa using this
theorem qb9.whole {text:qc} {b:qek} (h:qb9 text b):qng b=((qcz b).length:Int):=by
 unfold qng;rw [h.ends];by_cases h0:b.batches=[]
 ·rw [h0]
  simp [qdq,qcz,h0,qag]
 ·rw [qq5 _ _ h0]
  simp [qcz];omega
theorem qb9.take {text:qc} {b:qek} (h:qb9 text b):text.take (qng b).toNat=qcz b:=by
 rw [h.whole,Int.toNat_natCast]
 conv=>lhs;rw [h.split]
 rw [List.take_left]
theorem q4z {l:qc} (h:l≠[]) (hp:∀ p∈zj l,p.2=true):l.getLast? = some 10:=by
 have:∀ (k:Nat) (l:qc),l.length≤k→l≠[]→(∀ p∈zj l,p.2=true)→l.getLast? = some 10:=by
  intro k
  induction k with
  |zero=>intro l hl h0;exact absurd (List.length_eq_zero_iff.1 (by omega)) h0
  |succ k ih=>
   intro l hl h0 hp;rw [vr h0] at hp;have f0:10∈l:=by simpa using hp _ (List.mem_cons_self ..)
   have e:=y6 f0;by_cases hq:past 10 l=[]
   ·rw [hq] at e
    rw [e];simp
   ·have:=ih (past 10 l) (by have:=xo (c:=10) h0;omega) hq fun p sg=>hp p (by simp [sg])
    rw [e];rw [List.getLast?_append,List.getLast?_cons,this];simp
 exact this _ l (Nat.le_refl _) h hp
theorem zet {l x:qc} {n:Int} (h:∀ p∈zj l,p.2=true) (hx:x=[]∨x.head? = some 37) (hp:qce n <+: l++x):qce n <+: l:=by
 rcases qvj hp with h1 | ⟨r,h1,hr⟩
 ·exact h1
 ·by_cases cm:r=[]
  ·rw [h1,cm,List.append_nil]
   exact List.prefix_refl _
  ·exfalso
   obtain⟨c,q,rfl⟩:=List.exists_cons_of_ne_nil cm
   have hc:c=37:=by
    obtain⟨t,ht⟩:=hr;rcases hx with rfl|hx
    ·simp at ht
    ·rw [← ht] at hx
     simpa using hx
   subst hc;by_cases hl:l=[]
   ·rw [hl] at h1
    simp [qce,genL] at h1
   ·have i5:=q4z hl h
    obtain⟨q0,hq0⟩:∃ q0,l=q0++[10]:=by
     have:=q02 i5;exact⟨_,this.symm⟩
    have e:genL++Lib.itoa n++10::[10]=q0++10::(37::q):=by
     have:=h1;unfold qce at this;rw [hq0] at this
     simpa using this
    have hu10:10∉genL++Lib.itoa n:=by
     intro h;rcases List.mem_append.1 h with h|h
     ·revert h;decide
     ·exact qrk n h
    have hA:=wg (c:=10) [10] hu10;have hB:=w7 (c:=10) [10] hu10;rw [e] at hA hB;by_cases hq10:10∈q0
    ·have e2:=y6 hq10
     have e3:q0++10::(37::q)=upto 10 q0++10::(past 10 q0++10::(37::q)):=by
      conv=>lhs;rw [e2]
      simp
     rw [e3,w7 _ (qa3 10 q0)] at hB;have:=congrArg List.length hB;simp at this;omega
    ·rw [w7 _ hq10] at hB
     simp at hB
theorem q52 {l x y:qc} (h:∀ p∈zj l,p.2=true) (hx:qbh (l++x)=(0,l++x)) (hy:y=[]∨y.head? = some 37):qbh (l++y)=(0,l++y):=by
 refine qvo fun n r hg e=>?_;obtain⟨t,ht⟩:=zet (n:=n) h hy ⟨r,e.symm⟩;have:qbh (l++x)=(n,t++x):=by rw [← ht,List.append_assoc,qlp hg]
 rw [hx] at this;have h0:(0:Int)=n:=(Prod.mk.inj this).1;have:=hg.1;omega
theorem qb9.gen0 {text:qc} {b:qek} (h:qb9 text b):b.gen=0∨qev b.gen:=by
 have:=(q12 text).2;rw [h.gen] at this;exact this
theorem qb9.other {text:qc} {b:qek} (h:qb9 text b) {bs:List (List qq)} {t:qc} (hg:∀ x∈bs,qkj x) (ht:(qa4 t).1=2) (b9:(qbx b.gen++(b.base++(qag bs++t))).length≤120000) :
  qb9 (qbx b.gen++(b.base++(qag bs++t))) ⟨b.gen,b.base,bs,qdq ((qbx b.gen).length+b.base.length) bs,t⟩:=by
 refine⟨rfl,?_,h.parse,hg,ht,rfl,b9⟩;rcases h.gen0 with h0|h0
 ·have hgen:=h.gen
  have htext:=h.txt;have e:qbx b.gen=[]:=by unfold qbx;rw [if_neg (by rw [h0];decide)]
  rw [e,List.nil_append] at htext ⊢;rw [h0,htext] at hgen;simp only;rw [h0];exact q52 (fun p hp=>((qze h.parse).1 p hp).2) hgen (q6x (q6y hg ht))
 ·have e:qbx b.gen=qce b.gen:=by unfold qbx;rw [if_pos h0]
  simp only;rw [e,qlp h0]
theorem zcb:qa4 []=(2,[],0):=by
 unfold qa4 qh5;rw [if_neg (by simp),if_pos];rw [if_neg (by decide)];decide
theorem qb9.more {text:qc} {b:qek} (h:qb9 text b) {x:List qq} (hx:qkj x) (hl:(qcz b++recE x).length≤120000):qb9 (qcz b++recE x) { b with batches:=b.batches++[x],ends:=b.ends++[qng b+(recE x).length],tail:=[] }:=by
 have e:qbx b.gen++(b.base++(qag (b.batches++[x])++[]))=qcz b++recE x:=by simp [qcz,q5m]
 have:=h.other (bs:=b.batches++[x]) (t:=[]) (fun y hy=>by
  rcases List.mem_append.1 hy with hy|hy
  ·exact h.good y hy
  ·obtain rfl:=List.mem_singleton.1 hy
   exact hx) (by rw [zcb]) (by rw [e];exact hl)
 rw [e,qq6,← h.ends] at this
 have hw:((qbx b.gen).length+b.base.length+(qag b.batches).length+(recE x).length:Int)=qng b+(recE x).length:=by
  rw [h.whole];simp [qcz];omega
 rw [hw] at this;exact this
end Go.Pl
namespace Go.Proofs.YtapblfabkbdgcaaGreatDoor
open Go Go.Av Go.RowKit Go.Proofs Go.Pl
def zdj (L:List LnV) (i:Nat) (x:LnV):List qc:=x.text::vc ((L.drop (i+1)).map xq)
theorem qyv:∀ (r:List (qc×Bool)),(vc r).length≤r.length
 | []=>by simp [vc]
 |(t,e)::r=>by
  have:=qyv r;rw [vc];split <;> simp <;> omega
theorem qyw:∀ {r:List (qc×Bool)} {n:Nat},(∀ p∈r,p.1.length≤n)→∀ s∈vc r,s.length≤n
 | [],_,_,s,hs=>by simp [vc] at hs
 |(t,e)::r,n,h,s,hs=>by
  rw [vc] at hs;split at hs
  ·rcases List.mem_cons.1 hs with rfl|hs
   ·exact h (s,e) (by simp)
   ·exact qyw (fun p hp=>h p (by simp [hp])) s hs
  ·simp at hs
structure LnsB (L:List LnV):Prop where
 len:L.length<100000
 val:∀ x∈L,x.text.length<100000
theorem LnsB.said {L:List LnV} (h:LnsB L) {i:Nat} {x:LnV} (hx:L[i]? = some x):LsB (zdj L i x):=by
 have h1:=qyv ((L.drop (i+1)).map xq);have h2:=h.len;have h3:=h.val x (List.mem_of_getElem? hx);refine⟨?_,fun s hs=>?_⟩
 ·unfold zdj
  simp at h1 ⊢;omega
 ·rcases List.mem_cons.1 hs with rfl|hs
  ·omega
  ·have:=qyw (n:=100000) (fun p hp=>by
    obtain⟨y,hy,rfl⟩:=List.mem_map.1 hp;have:=h.val y (List.mem_of_mem_drop hy);simp only [xq]
    omega) s hs
   omega
@[reducible] def qfq (es : List Int) : AV := .sl 1 (es.map fun x => Iv x) none
theorem qpx {a b c:AV} (h1:Pure a) (h2:Pure b) (h3:Pure c):Pure (.tu [a,b,c]):=qfd fun z hz=>by
 simp only [List.mem_cons,List.not_mem_nil,or_false] at hz;rcases hz with rfl|rfl|rfl
 ·exact h1
 ·exact h2
 ·exact h3
theorem qex (es:List Int):Pure (qfq es):=qb7 fun x hx=>by
 obtain⟨b,_,rfl⟩:=List.mem_map.1 hx;intro y hy;simp only [AV.cells,List.mem_cons,List.not_mem_nil,or_false] at hy;subst hy;exact q8 _
theorem q1w (text:qc) (st:List AObj) (hl:60000<text.length) (h2:text.length<1000000):qn E 49 [Sv text] st fun r st'=>r = .tu [wy [],errA (.num 1)]∧st'=st:=by
 refine zt [.s text] (kw (qfr _) (va _)) Tryz.func49 rfl rfl (fun _=>rfl) rfl fun S0=>?_;apply qf [];repeat' (first|apply And.intro|(intro h;try exact cDd)|exact cSd|apply qd []|refine exr ?_|refine qk ?_)
def itsE (text:qc):List za:=if 60000<text.length then [] else (jj text).2
theorem q9i (text:qc) (st:List AObj) (hl:text.length<1000000):qn E 49 [Sv text] st fun r st'=>r = .tu [wy (itsE text),errA (kv text)]∧st'=st:=by
 unfold kv itsE;by_cases hb:60000<text.length
 ·rw [if_pos hb,if_pos hb]
  exact q1w text st hb hl
 ·rw [if_neg hb,if_neg hb]
  have:=qp2 text st (by omega);unfold qcu at this;rcases hp:(jj text).1 with _ | ⟨x,y⟩
  ·rw [hp] at this
   exact this
  ·rw [hp] at this
   exact this
def qg0:List Fld→Int→Int→Bool
 | [],_,_=>false
 |f::r,i,n=>if 60<i∨6000<n+(min (f.1.length:Int) 10000+min (f.2.length:Int) 10000) then true else qg0 r (i+1) (n+(min (f.1.length:Int) 10000+min (f.2.length:Int) 10000))
def qcn:List qq→Int→Bool
 | [],_=>false
 |x::r,i=>if 50<i then true else if qg0 x.fields 0 0=true then true else qcn r (i+1)
theorem qrr:∀ (fs:List Fld) (i n:Int),0≤n→n≤6000→0≤i→qg0 fs i n=false→fs.length≤(61 - i).toNat∧∀ f∈fs,f.1.length≤6000∧f.2.length≤6000
 | [],i,n,_,_,_,_=>by simp
 |f::r,i,n,h0,h1,h2,h=>by
  rw [qg0] at h;split at h
  ·simp at h
  ·obtain⟨g1,g2⟩:=qrr r _ _ (by omega) (by omega) (by omega) h
   simp only [List.length_cons];refine⟨by omega,fun g hg=>?_⟩;rcases List.mem_cons.1 hg with rfl|hg
   ·omega
   ·exact g2 g hg
theorem qoq:∀ (b:List qq) (i:Int),0≤i→qcn b i=false→b.length≤(51 - i).toNat∧∀ x∈b,zc9 x.fields
 | [],_,_,_=>by simp
 |x::r,i,h0,h=>by
  rw [qcn] at h;split at h
  ·simp at h
  ·split at h
   ·simp at h
   ·rename_i hm
    obtain⟨g1,g2⟩:=qoq r _ (by omega) h;simp only [List.length_cons];refine⟨by omega,fun y hy=>?_⟩;rcases List.mem_cons.1 hy with rfl|hy
    ·obtain⟨k1,k2⟩:=qrr y.fields 0 0 (by omega) (by omega) (by omega) (by simpa using hm)
     exact⟨by omega,fun f hf=>by have:=k2 f hf;omega⟩
    ·exact g2 y hy
theorem qyi {b:List qq} (h:qcn b 0=false):q6b b:=by
 obtain⟨h1,h2⟩:=qoq b 0 (by omega) h;exact⟨by omega,h2⟩
theorem zfj (fs:List Fld) (st:List AObj) (hf:fs.length<9223372036854775808):qn E 23 [zl fs] st fun r st'=>r=Bv (qg0 fs 0 0)∧st'=st:=by
 refine zt [.a (zl fs)] (q8 _) Tryz.func23 rfl rfl (fun _=>rfl) rfl fun S0=>?_;have hm:(fs.map fldA).length=fs.length:=by simp
 apply qf [];repeat' (first|apply And.intro|(intro h;try exact cDd)|exact cSd|apply qd []|refine exr ?_|refine qk ?_)
 refine ke (X:=Nat×Int) (fun (k,n)=>⟨[(3,.i n),(6,.a (zl fs)),(7,.i fs.length),(8,.i k)],[],0⟩) (fun (k,n)=>k≤fs.length∧k≤61∧0≤n∧n≤6000∧qg0 (fs.drop k) k n=qg0 fs 0 0) (fun x=>fs.length - x.1) (0,0) ⟨by omega,by omega,by omega,by omega,rfl⟩ ?_ ?_
 ·skip
  repeat' (first|apply And.intro|(intro h;try exact cDd)|exact cSd|apply qd []|refine exr ?_|refine qk ?_)
  all_goals first|(simp;done)
 ·rintro⟨k,n⟩ ⟨hk,bq,h0,h1,h⟩
  by_cases hc:k<fs.length
  ·obtain⟨f,hx⟩:∃ f,fs[k]? = some f:=⟨_,List.getElem?_eq_getElem hc⟩
   have hg:(fs.map fldA)[k]? = some (fldA f):=by simp [hx]
   have hd:fs.drop k=f::fs.drop (k+1):=by
    obtain⟨d5,e⟩:=List.getElem?_eq_some_iff.1 hx;rw [List.drop_eq_getElem_cons d5,e]
   rw [hd,qg0] at h;apply qf [];repeat' (first|apply And.intro|(intro h;try exact cDd)|(refine Exists.intro (k) ⟨by omega,_,hg,?_⟩)|(refine Exists.intro (k+1,n+(min (f.1.length:Int) 10000+min (f.2.length:Int) 10000)) ⟨⟨by omega,by omega,by omega,by omega,?_⟩,by simp only;omega,?_⟩)|exact cSd|apply qd []|refine exr ?_|refine qk ?_)
   all_goals first|grind|(simp;done)
  ·have hd:fs.drop k=[]:=List.drop_eq_nil_of_le (by omega)
   rw [hd,qg0] at h;apply qf [];repeat' (first|apply And.intro|(intro h;try exact cDd)|exact cSd|apply qd []|refine exr ?_|refine qk ?_)
   all_goals first|grind|(simp [*];done)
theorem za9 (b:List qq) (st:List AObj) (hb:b.length<9223372036854775808) (hf:∀ x∈b,x.fields.length<9223372036854775808):qn E 7 [jo b] st fun r st'=>r=Bv (qcn b 0)∧st'=st:=by
 refine zt [.a (jo b)] (q8 _) Tryz.func7 rfl rfl (fun _=>rfl) rfl fun S0=>?_;have hm:(b.map je).length=b.length:=by simp
 apply qf [];repeat' (first|apply And.intro|(intro h;try exact cDd)|exact cSd|apply qd []|refine exr ?_|refine qk ?_)
 refine ke (X:=Nat) (fun k=>⟨[(5,.a (jo b)),(6,.i b.length),(7,.i k)],[],0⟩) (fun k=>k≤b.length∧k≤51∧qcn (b.drop k) k=qcn b 0) (fun x=>b.length - x) 0 ⟨by omega,by omega,rfl⟩ ?_ ?_
 ·skip
  repeat' (first|apply And.intro|(intro h;try exact cDd)|exact cSd|apply qd []|refine exr ?_|refine qk ?_)
  all_goals first|(simp;done)
 ·rintro k ⟨hk,bq,h⟩
  by_cases hc:k<b.length
  ·obtain⟨x,hx⟩:∃ x,b[k]? = some x:=⟨_,List.getElem?_eq_getElem hc⟩
   have hg:(b.map je)[k]? = some (je x):=by simp [hx]
   have hd:b.drop k=x::b.drop (k+1):=by
    obtain⟨d5,e⟩:=List.getElem?_eq_some_iff.1 hx;rw [List.drop_eq_getElem_cons d5,e]
   rw [hd,qcn] at h;have hmu:=fun st=>zfj x.fields st (hf x (List.mem_of_getElem? hx));apply qf [];repeat' (first|apply And.intro|(intro h;try exact cDd)|exact⟨Tryz.call23⟩|refine cpe hmu ?_|(refine Exists.intro (k) ⟨by omega,_,hg,?_⟩)|(refine Exists.intro (k+1) ⟨⟨by omega,by omega,?_⟩,by omega,?_⟩)|exact cSd|apply qd []|refine exr ?_|refine qk ?_)
   all_goals first|grind|(simp;done)
  ·have hd:b.drop k=[]:=List.drop_eq_nil_of_le (by omega)
   rw [hd,qcn] at h;apply qf [];repeat' (first|apply And.intro|(intro h;try exact cDd)|exact cSd|apply qd []|refine exr ?_|refine qk ?_)
   all_goals first|grind|(simp [*];done)
end Go.Proofs.YtapblfabkbdgcaaGreatDoor
namespace Go.Pl
open Go Go.Proofs
structure EntV where
 x:za
 id:Int
structure q7 where
 ents:List EntV
 next:Int
 many:Int
def wj (l:q7) (x:za):q7:=if x.kind=3 then⟨l.ents++[⟨x,l.next⟩],l.next+1,l.many+1⟩ else⟨l.ents++[⟨x,0⟩],l.next,l.many⟩
def ofF (its:List za):q7:=its.foldl wj ⟨[],1,0⟩
end Go.Pl
namespace Go.Proofs.YtapblfabkbdgcaaGreatDoor
open Go Go.Av Go.RowKit Go.Proofs Go.Pl
@[reducible] def entA (e : EntV) : AV := .ag [Iv e.x.kind, Sv e.x.raw, zl e.x.fields, Iv e.id]
@[reducible] def vp (l : q7) : AV := .pp [.sl 4 (l.ents.map entA) none, Iv l.next, Iv l.many]
def qh1 (e:ErrV) (l:q7):AV:=match e with
 | .no=>.tu [vp l,errA .no]
 |e=>.tu [.v (.pointer none),errA e]
theorem q4t (e:EntV):qnk (entA e):=fun y hy=>by
 simp only [AV.cells,List.mem_cons,List.not_mem_nil,or_false] at hy;rcases hy with rfl|rfl|rfl|rfl
 ·exact q8 _
 ·exact q8 _
 ·exact y4 _
 ·exact q8 _
theorem qro (l:q7):Pure (vp l):=qtj fun x hx=>by
 simp only [List.mem_cons,List.not_mem_nil,or_false] at hx;rcases hx with rfl|rfl|rfl
 ·exact qb7 fun x hx=>by
   obtain⟨f,_,rfl⟩:=List.mem_map.1 hx;exact q4t f
 ·exact q8 _
 ·exact q8 _
theorem qox (e:ErrV) (l:q7):Pure (qh1 e l):=by
 cases e with
 |no=>exact kw (qro l) (va _)
 |num n=>exact kw (q8 _) (va _)
 |at' a n=>exact kw (q8 _) (va _)
theorem qg8:∀ (n:Nat) (rest:qc) (k:Nat) (p:PSt),rest.length≤n→PB (4 * k) p→k+rest.length≤60000→(runL k (zj rest) p).2.items.length≤300000:=by
 have nil:∀ (k:Nat) (p:PSt),PB (4 * k) p→k≤60000→(runL k (zj []) p).2.items.length≤300000:=fun k p hB hk=>by
  have e:jd p 0 [] true 1=endP p:=rfl;have h:=qie (no:=0) (text:=[]) (ended:=true) (kind:=1) hB (by omega) (by simp);rw [e] at h;have e2:runL k (zj []) p=endP p:=by rw [kq];rfl
  rw [e2];have:=h.items;omega
 intro n
 induction n with
 |zero=>
  intro rest k p hr hB hk;obtain rfl:rest=[]:=List.eq_nil_of_length_eq_zero (by omega)
  exact nil k p hB (by simpa using hk)
 |succ n ih=>
  intro rest k p hr hB hk;by_cases b8:rest=[]
  ·subst b8
   exact nil k p hB (by simpa using hk)
  ·have hu:=vt 10 rest
   have s0:=vj 10 rest;have cm:0<rest.length:=List.length_pos_iff.2 b8;rw [vr b8];simp only [runL];have cj:=qp4 (no:=k) (text:=upto 10 rest) (ended:=decide (10∈rest)) hB (by omega) (by omega);split
   ·have:=hB.items
    simp only;omega
   ·exact ih (past 10 rest) (k+1) _ (by omega) cj (by omega)
theorem qyq (text:qc):(itsE text).length≤300000:=by
 unfold itsE;split
 ·simp
 ·have h:=qg8 text.length text 0 p0 (Nat.le_refl _) qwq (by omega)
  unfold jj;split
  ·simp
  ·exact h
theorem qpm (text:qc) (st:List AObj) (hl:text.length<1000000):qn E 25 [Sv text] st fun r st'=>r=qh1 (kv text) (ofF (itsE text))∧st'=st:=by
 refine qld [.s text] (qox _ _) Tryz.func25 rfl rfl (fun _=>rfl) rfl fun S0=>?_;have hp:=fun st=>q9i text st hl;have ld:=qyq text;generalize itsE text=its at hp ld
 cases he:kv text with
 |num n=>
  rw [he] at hp;apply qf [19]
  repeat' (first|apply And.intro|(intro h;try exact cDd)|exact⟨Tryz.call49⟩|refine cpe hp ?_|exact cSd|apply qd [19]|refine exr ?_|refine qk ?_)
 |at' a n=>
  rw [he] at hp;apply qf [19]
  repeat' (first|apply And.intro|(intro h;try exact cDd)|exact⟨Tryz.call49⟩|refine cpe hp ?_|exact cSd|apply qd [19]|refine exr ?_|refine qk ?_)
 |no=>
  rw [he] at hp;apply qf [19];repeat' (first|apply And.intro|(intro h;try exact cDd)|exact⟨Tryz.call49⟩|refine cpe hp ?_|exact cSd|apply qd [19]|refine exr ?_|refine qk ?_)
  refine ke (X:=Nat×q7) (fun (k,l)=>⟨[(6,.bx 0 0),(20,.a (wy its)),(21,.i its.length),(22,.i k)],[(0,some (.cells 105 [.tp 1,.i l.next,.i l.many])),(1,some (.tip 4 109 (l.ents.map entA)))],2⟩)
   (fun (k,l)=>k≤its.length∧l.ents.length=k∧(1≤l.next∧l.next≤k+1∧0≤l.many∧l.many≤k)∧(its.drop k).foldl wj l=ofF its) (fun (k,l)=>its.length - k) (0,⟨[],1,0⟩) ⟨by omega,rfl,⟨by decide,by decide,by decide,by decide⟩,rfl⟩ ?_ ?_
  ·skip
   repeat' (first|apply And.intro|(intro h;try exact cDd)|exact cSd|apply qd []|refine exr ?_|refine qk ?_)
   all_goals (simp;done)
  ·rintro⟨k,l⟩ ⟨hk,hlk,p9,a8⟩
   by_cases i8:k<its.length
   ·have hx:its[k]? = some its[k]:=List.getElem?_eq_getElem i8
    have m7:(its.map vo)[k]? = some (vo its[k]):=by rw [List.getElem?_map,hx];rfl
    rw [List.drop_eq_getElem_cons i8,List.foldl_cons] at a8;have g9:(l.ents.map entA).length=l.ents.length:=by simp
    generalize its[k]=x at hx m7 a8;by_cases lg:x.kind=3
    ·have e:wj l x=⟨l.ents++[⟨x,l.next⟩],l.next+1,l.many+1⟩:=if_pos lg
     rw [e] at a8;apply qf [];repeat' (first|apply And.intro|(intro h;try exact cDd)|(refine Exists.intro (k) ⟨by omega,_,m7,?_⟩)|(refine Exists.intro (k+1,⟨l.ents++[⟨x,l.next⟩],l.next+1,l.many+1⟩) ⟨⟨by omega,by simp [hlk],by simp only;omega,a8⟩,by simp only;omega,?_⟩)|exact cSd|apply qd []|refine exr ?_|refine qk ?_)
     all_goals (simp;done)
    ·have e:wj l x=⟨l.ents++[⟨x,0⟩],l.next,l.many⟩:=if_neg lg
     rw [e] at a8;apply qf [];repeat' (first|apply And.intro|(intro h;try exact cDd)|(refine Exists.intro (k) ⟨by omega,_,m7,?_⟩)|(refine Exists.intro (k+1,⟨l.ents++[⟨x,0⟩],l.next,l.many⟩) ⟨⟨by omega,by simp [hlk],by simp only;omega,a8⟩,by simp only;omega,?_⟩)|exact cSd|apply qd []|refine exr ?_|refine qk ?_)
     all_goals (simp;done)
   ·have i8:k=its.length:=by omega
    subst i8;rw [List.drop_length] at a8;have e:ofF its=l:=a8.symm;rw [e];apply qf [];repeat' (first|apply And.intro|(intro h;try exact cDd)|exact cSd|apply qd []|refine exr ?_|refine qk ?_)
end Go.Proofs.YtapblfabkbdgcaaGreatDoor
namespace Go.Av
open Go Go.RowKit
theorem qji {E:Env} {rd:Option Nat} {N:Nat} {ops:Array Oper} {K:AS→Prop} {s:AS} {rest:List Oper} {d:Option Tmp} {T:TypeId} {p:String} {af:Array Edge} {x:Operand} {t t' te:TypeId} {sz:Nat} {xs:List AV} {tip:Option Nat} (hx:qi N s x = .sl sz xs tip) (hu:E.P.underlying t=some (.slice te))
  (h1:xs=[]→AOps E rd N ops rest K (s.put d (Bv true))) (h2:AOps E rd N ops rest K (s.put d (Bv false))):AOps E rd N ops (⟨d,.binOp .eql t x (.const (.slice none 0 0)) t',T,p,af,none⟩::rest) K s:=by
 refine qz rfl (qx nofun fun B0 w0 G a w _ hI=>?_);have he:=hI.eval_of hx
 have key:∃ q n c,a.eval x = .slice q n c∧(q.isNone=true→xs=[]):=by
  generalize a.eval x=u at he
  cases he with
  |sl0=>exact⟨_,_,_,rfl,fun _=>rfl⟩
  |sl=>exact⟨_,_,_,rfl,fun h=>by simp at h⟩
 obtain⟨q,n,c,hv,hq0⟩:=key;have hc:a.eval (.const (.slice none 0 0)) = .slice none 0 0:=rfl;have hq:=Lib.run_eql_slice_nil (P:=E.P) w t te q n c 0 0 hu;refine⟨_,w,G,.v (.bool q.isNone),s.st,?_,.refl G,hI.agree,.v _,?_⟩
 ·generalize a.eval = ρ at hv hc
  simp [execOp,hv,hc,eqGuard_at_slice,hq]
 ·cases hb:q.isNone with
  |true=>exact h1 (hq0 hb)
  |false=>exact h2
theorem qb1.len0 {c:AV} (h:qb1 c):∀ (G:Gh) (v:Value),Rel G c v→∃ b n cp,v = .slice b n cp∧n≤cp:=fun G v hv=>by
 obtain⟨base,rfl⟩:=h.val G v hv;exact⟨_,_,_,rfl,Nat.le_refl _⟩
end Go.Av
namespace Go.Proofs.YtapblfabkbdgcaaGreatDoor
open Go Go.Av Go.RowKit Go.Proofs Go.Pl
theorem qbv (fs:List Fld) (st:List AObj) (hl:fs.length<1000000):qn E 91 [zl fs] st fun r st'=>r=zl fs∧st'=st:=by
 refine zb (y4 _) (qr Tryz.func91 rfl (Nat.le_of_ble_eq_true rfl) ?_);have g9:(fs.map fldA).length=fs.length:=by simp
 rw [List.append_nil];repeat' (first|(apply qbr (st:=st);(iterate 6 exact rfl))|(apply qji;exact rfl;exact rfl;intro h0)|apply qm|apply qg|apply qh|apply ql|apply qj|(apply qe;exact rfl;apply cd_t;exact cRa)|(apply qe;exact rfl;apply cd_f;exact cRa)|apply qw|apply q6|(apply qhj (b:=st.length) (xs:=[]) (ys:=fs.map fldA) (bytes:=32);(iterate 5 exact rfl);exact⟨⟨_,_,rfl,rfl,rfl,rfl,rfl⟩⟩;(focus (repeat' (first|assumption|exact q0b _ _ _ _|exact q3h _ _ _ _ _ _ _|apply qp7|apply qvs|(refine yn (T:=_) (ver:=_) (cs:=_) ?_)|exact wd|exact jl rfl|apply j8|apply km|omega|apply qbc)));(exact qfc);(first|exact rfl|exact qbq fun _=>rfl);((simp [maxLen];omega));((simp;omega));intro c' S' t1 g1 g2 g3 g4))
 ·exact qo rfl (wp (zf rfl) (fun G v h=>by
   rw [zl,h0]
   exact qa5 h)) ⟨rfl,_,(List.append_nil st).symm⟩
 ·exact qo rfl (wp (zf rfl) (qli g1)) ⟨rfl,qs9 fun j hj=>(g2.same j (by omega) (Nat.lt_of_lt_of_le hj qfc)).trans (List.getElem?_append_left hj)⟩
theorem q4b (es:List EntV) (st:List AObj) (hl:es.length<1000000):qn E 127 [.sl 4 (es.map entA) none] st fun r st'=>OwnR 4 109 (es.map entA) st (.v undef) r st':=by
 refine qr Tryz.func127 rfl (Nat.le_of_ble_eq_true rfl) ?_;have g9:(es.map entA).length=es.length:=by simp
 rw [List.append_nil];by_cases he:es=[]
 ·subst he
  repeat' (first|(apply qbr (st:=st);(iterate 6 exact rfl))|(apply qji;exact rfl;exact rfl;intro h0)|(apply ql7 (c:=.os st.length 0 0 0 0);exact rfl;exact (qm4 _ _ _).len0;exact fun _ _ h=>h;exact rfl;exact rfl;exact⟨⟨_,_,rfl,rfl,rfl,rfl,rfl⟩⟩)|apply qm|apply qg|apply qh|apply ql|apply qj|(apply qe;exact rfl;apply cd_t;exact cRa)|(apply qe;exact rfl;apply cd_f;exact cRa)|apply qw|apply q6)
  ·exact qo rfl (zf rfl) ⟨.inl ⟨rfl,qpt none⟩,Nat.le_refl _,fun _ _ _=>rfl,fun o ho=>by
   have ho:(none:Option Nat)=some o:=ho
   simp at ho⟩
  ·exact qo rfl (zf rfl) ⟨.inl ⟨rfl,qm4 _ _ _⟩,qfc,fun j hj _=>List.getElem?_append_left hj,fun o ho=>by
   have ho:(none:Option Nat)=some o:=ho
   simp at ho⟩
 ·have b8:es.map entA≠[]:=by simpa using he
  repeat' (first|(apply qbr (st:=st);(iterate 6 exact rfl))|(apply qji;exact rfl;exact rfl;intro h0)|(refine qds (ys:=es.map entA) (bytes:=56) (qm4 _ _ _).val (fun _ _ h=>h) rfl rfl ⟨⟨_,_,rfl,rfl,rfl,rfl,rfl⟩⟩ (qbq fun _=>rfl) b8 (by simp [maxLen];omega) (by simp;omega) fun cap pad q1 q2 q3 q4=>?_)|apply qm|apply qg|apply qh|apply ql|apply qj|(apply qe;exact rfl;apply cd_t;exact cRa)|(apply qe;exact rfl;apply cd_f;exact cRa)|apply qw|apply q6)
  ·exact absurd h0 b8
  ·refine qo rfl (zf rfl) ⟨.inr ⟨_,0,cap,pad,rfl,wd,q1,q2,q3,q4⟩,Nat.le_trans qfc qfc,fun j hj _=>?_,fun o ho=>?_⟩
   ·show ((st++[_])++[_])[j]? = _
    rw [List.getElem?_append_left (by simp;omega),List.getElem?_append_left hj]
   ·have d6:some (st++[AObj.cells 0 109 []]).length=some o:=ho
    simp only [Option.some.injEq] at d6;left;rw [← d6];simp
end Go.Proofs.YtapblfabkbdgcaaGreatDoor
namespace Go.Pl
open Go Go.Proofs
def yt (id:Int):Nat→List EntV→Int
 | _,[]=> -1
 |k,e::r=>if e.id=id then (k:Int) else yt id (k+1) r
def atF (l:q7) (id:Int):Int:=if id<1 then -1 else yt id 0 l.ents
theorem qrf (id:Int):∀ (es:List EntV) (k:Nat),yt id k es = -1∨∃ i e,yt id k es=((k+i:Nat):Int)∧es[i]? = some e∧e.id=id
 | [],k=>.inl rfl
 |e::r,k=>by
  unfold yt;by_cases h:e.id=id
  ·rw [if_pos h]
   exact .inr ⟨0,e,by simp,rfl,h⟩
  ·rw [if_neg h]
   rcases qrf id r (k+1) with g | ⟨i,e',g1,g2,g3⟩
   ·exact .inl g
   ·exact .inr ⟨i+1,e',by rw [g1];congr 1;omega,by simpa using g2,g3⟩
theorem qj2 (l:q7) (id:Int):atF l id = -1∨∃ (i:Nat) (e:EntV),atF l id=(i:Int)∧l.ents[i]? = some e∧e.id=id∧1≤id:=by
 unfold atF;by_cases h:id<1
 ·exact .inl (if_pos h)
 ·rw [if_neg h]
  rcases qrf id l.ents 0 with g | ⟨i,e,g1,g2,g3⟩
  ·exact .inl g
  ·exact .inr ⟨i,e,by rw [g1];congr 1;omega,g2,g3,by omega⟩
end Go.Pl
namespace Go.Proofs.YtapblfabkbdgcaaGreatDoor
open Go Go.Av Go.RowKit Go.Proofs Go.Pl
theorem zim (e:EntV) (id:Int) (st:List AObj):qn E 196 [entA e,.pp [Iv id]] st fun r st'=>r=Bv (decide (e.id=id))∧st'=st:=by
 refine zt [.a (entA e),.a (.pp [Iv id])] (q8 _) Tryz.func196 rfl rfl (fun _=>rfl) rfl fun S0=>?_;apply qf [];repeat' (first|apply And.intro|(intro h;try exact cDd)|exact cSd|apply qd []|refine exr ?_|refine qk ?_)
@[reducible] def atFn (id : Int) : SV := .fn (.func 196) [] [.a (.pp [Iv id])]
theorem zfa (l:q7) (st:List AObj):qn E 116 [vp l] st fun r st'=>r=Iv l.next∧st'=st:=by
 refine zt [.a (vp l)] (q8 _) Tryz.func116 rfl rfl (fun _=>rfl) rfl fun S0=>?_;apply qf [];repeat' (first|apply And.intro|(intro h;try exact cDd)|exact cSd|apply qd []|refine exr ?_|refine qk ?_)
@[reducible] def lstH (a : Nat) (l : q7) : List (Nat × Option SR) := [(0, some (.cells 105 [.tp a, .i l.next, .i l.many])), (a, some (.own 4 109 (l.ents.map entA)))]
theorem zbb (es:List EntV) (id:Int) (hl:es.length<1000000):ki E 195 [.tp 0,atFn id] 1 (hpF [(0,some (.own 4 109 (es.map entA)))]) ⟨.i (yt id 0 es),j5 [(0,some (.own 4 109 (es.map entA)))],[(0,some (.own 4 109 (es.map entA)))]++vd [(0,some (.own 4 109 (es.map entA)))],1⟩:=by
 refine wl [.tp 0,atFn id] [(0,some (.own 4 109 (es.map entA)))] 1 (.i (yt id 0 es)) [(0,some (.own 4 109 (es.map entA)))] 1 Tryz.func195 rfl rfl rfl rfl fun S F ρ=>?_;have g9:(es.map entA).length=es.length:=by simp
 apply qf [];repeat' (first|apply And.intro|(intro h;try exact cDd)|exact cSd|apply qd []|refine exr ?_|refine qk ?_)
 refine ke (X:=Nat) (fun k=>⟨[(0,.tp 0),(1,atFn id),(7,.i es.length),(8,.i k)],[(0,some (.own 4 109 (es.map entA)))],1⟩) (fun k=>k≤es.length∧yt id k (es.drop k)=yt id 0 es) (fun k=>es.length - k) 0 ⟨by omega,by simp⟩ ?_ ?_
 ·skip
  repeat' (first|apply And.intro|(intro h;try exact cDd)|exact cSd|apply qd []|refine exr ?_|refine qk ?_)
  all_goals (simp;done)
 ·rintro k ⟨hk,a8⟩
  by_cases i8:k<es.length
  ·have hx:es[k]? = some es[k]:=List.getElem?_eq_getElem i8
   have m7:(es.map entA)[k]? = some (entA es[k]):=by rw [List.getElem?_map,hx];rfl
   rw [List.drop_eq_getElem_cons i8,yt] at a8;generalize es[k]=e at hx m7 a8;have h1:=fun st=>zim e id st;by_cases bv:e.id=id
   ·rw [if_pos bv] at a8
    rw [decide_eq_true bv] at h1;rw [← a8];apply qf [];repeat' (first|apply And.intro|(intro h;try exact cDd)|(refine qdv (i:=k) rfl rfl rfl rfl rfl rfl (by omega) ?_)|(refine qh7 (i:=k) (j:=0) rfl rfl rfl rfl m7 rfl rfl ?_)|exact⟨Tryz.call196⟩|refine cpe h1 ?_|exact cSd|apply qd []|refine exr ?_|refine qk ?_)
   ·rw [if_neg bv] at a8
    rw [decide_eq_false bv] at h1;apply qf [];repeat' (first|apply And.intro|(intro h;try exact cDd)|(refine qdv (i:=k) rfl rfl rfl rfl rfl rfl (by omega) ?_)|(refine qh7 (i:=k) (j:=0) rfl rfl rfl rfl m7 rfl rfl ?_)|exact⟨Tryz.call196⟩|refine cpe h1 ?_|(refine Exists.intro (k+1) ⟨⟨by omega,a8⟩,by omega,?_⟩)|exact cSd|apply qd []|refine exr ?_|refine qk ?_)
  ·have i8:k=es.length:=by omega
   subst i8;rw [List.drop_length,yt] at a8;rw [← a8];apply qf [];repeat' (first|apply And.intro|(intro h;try exact cDd)|exact cSd|apply qd []|refine exr ?_|refine qk ?_)
theorem qsy (l:q7) (id:Int) (hl:l.ents.length<1000000):ki E 168 [.bx 0 0,.i id] 2 (hpF (lstH 1 l)) ⟨.i (atF l id),j5 (lstH 1 l),lstH 1 l++vd (lstH 1 l),2⟩:=by
 refine wl [.bx 0 0,.i id] (lstH 1 l) 2 (.i (atF l id)) (lstH 1 l) 2 Tryz.func168 rfl rfl rfl rfl fun S F ρ=>?_;unfold atF;have h1:=zbb l.ents id hl;by_cases h:id<1
 ·rw [if_pos h]
  apply qf [];repeat' (first|apply And.intro|(intro h;try exact cDd)|exact cSd|apply qd []|refine exr ?_|refine qk ?_)
 ·rw [if_neg h]
  apply qf [];repeat' (first|apply And.intro|(intro h;try exact cDd)|exact⟨Tryz.call195⟩|(refine jk h1 ?_)|exact cSd|apply qd []|refine exr ?_|refine qk ?_)
end Go.Proofs.YtapblfabkbdgcaaGreatDoor
namespace Go.Pl
open Go Go.Proofs
def qtp (fs:List Fld):qc:=if zw fs = .no then z0 fs else []
def xg (fs:List Fld):za:=if zw fs = .no then⟨3,z0 fs,fs⟩ else⟨0,[],[]⟩
def jf (its:List za):qc:=its.flatMap fun x=>x.raw
theorem qed (a b:List za):jf (a++b)=jf a++jf b:=by simp [jf]
theorem qee (x:za):jf [x]=x.raw:=by simp [jf]
def jw (prev:Bool):List za→List za
 | []=>[]
 |x::r=>(if prev=true∧x.kind≠1 then [⟨1,[10],[]⟩,x] else [x])++jw (decide (x.kind≠1)) r
def y0 (its:List za):List za:=jw false its
def z7 (l:q7):List za:=l.ents.map fun e=>e.x
def qai (l:q7):qc:=jf (y0 (z7 l))
end Go.Pl
namespace Go.Proofs.YtapblfabkbdgcaaGreatDoor
open Go Go.Av Go.RowKit Go.Proofs Go.Pl
theorem q80 (fs:List Fld) (st:List AObj) (hK:KeyB fs) (hl:fs.length<9223372036854775808):qn E 197 [zl fs] st fun r st'=>r = .tu [Sv (qtp fs),errA (zw fs)]∧st'=st:=by
 refine zt [.a (zl fs)] (kw (q8 _) (va _)) Tryz.func197 rfl rfl (fun _=>rfl) rfl fun S0=>?_;unfold qtp
 cases he:zw fs with
 |no=>
  rw [if_pos rfl];have h1:=fun st=>qla fs st _ he hK hl;obtain⟨_,h3,h4⟩:=qer he;have h2:=fun st=>qrc fs st h3 h4;apply qf []
  repeat' (first|apply And.intro|(intro h;try exact cDd)|exact⟨Tryz.call141⟩|refine cpe h1 ?_|exact⟨Tryz.call64⟩|refine cpe h2 ?_|exact cSd|apply qd []|refine exr ?_|refine qk ?_)
 |num n=>
  rw [if_neg (by simp)];have h1:=fun st=>qla fs st _ he hK hl;apply qf []
  repeat' (first|apply And.intro|(intro h;try exact cDd)|exact⟨Tryz.call141⟩|refine cpe h1 ?_|exact cSd|apply qd []|refine exr ?_|refine qk ?_)
 |at' a n=>
  rw [if_neg (by simp)];have h1:=fun st=>qla fs st _ he hK hl;apply qf [];repeat' (first|apply And.intro|(intro h;try exact cDd)|exact⟨Tryz.call141⟩|refine cpe h1 ?_|exact cSd|apply qd []|refine exr ?_|refine qk ?_)
theorem q26 (fs:List Fld) (st:List AObj) (hK:KeyB fs) (hl:fs.length<1000000):qn E 169 [zl fs] st fun r st'=>r = .tu [vo (xg fs),errA (zw fs)]∧st'=st:=by
 refine zt [.a (zl fs)] (kw (qaq (qjp _)) (va _)) Tryz.func169 rfl rfl (fun _=>rfl) rfl fun S0=>?_;have h1:=fun st=>q80 fs st hK (by omega);have h2:=fun st=>qbv fs st hl;unfold qtp at h1;unfold xg
 cases he:zw fs with
 |no=>
  rw [he,if_pos rfl] at h1;rw [if_pos rfl];apply qf []
  repeat' (first|apply And.intro|(intro h;try exact cDd)|exact⟨Tryz.call197⟩|refine cpe h1 ?_|exact⟨Tryz.call91⟩|refine cpe h2 ?_|exact cSd|apply qd []|refine exr ?_|refine qk ?_)
 |num n=>
  rw [he,if_neg (by simp)] at h1;rw [if_neg (by simp)];apply qf []
  repeat' (first|apply And.intro|(intro h;try exact cDd)|exact⟨Tryz.call197⟩|refine cpe h1 ?_|exact cSd|apply qd []|refine exr ?_|refine qk ?_)
 |at' a n=>
  rw [he,if_neg (by simp)] at h1;rw [if_neg (by simp)];apply qf [];repeat' (first|apply And.intro|(intro h;try exact cDd)|exact⟨Tryz.call197⟩|refine cpe h1 ?_|exact cSd|apply qd []|refine exr ?_|refine qk ?_)
theorem zao (x:za) (st:List AObj) (hl:x.fields.length<1000000):qn E 132 [vo x] st fun r st'=>r=vo x∧st'=st:=by
 refine zt [.a (vo x)] (qaq (qjp _)) Tryz.func132 rfl rfl (fun _=>rfl) rfl fun S0=>?_;have h2:=fun st=>qbv x.fields st hl;apply qf [1];repeat' (first|apply And.intro|(intro h;try exact cDd)|exact⟨Tryz.call91⟩|refine cpe h2 ?_|exact cSd|apply qd [1]|refine exr ?_|refine qk ?_)
structure ItsB (its:List za):Prop where
 len:its.length≤1000000
 fld:∀ x∈its,x.fields.length<1000000
theorem qt1 (prev:Bool):∀ its:List za,(jw prev its).length≤2 * its.length
 | []=>by simp [jw]
 |x::r=>by
  have ih:=qt1 (decide (x.kind≠1)) r;unfold jw;split <;> simp only [List.length_append,List.length_cons,List.length_nil] <;> omega
theorem zbx (its:List za) (st:List AObj) (hB:ItsB its):qn E 90 [wy its] st fun r st'=>r=wy (y0 its)∧st'=st:=by
 refine zt [.a (wy its)] (qfr _) Tryz.func90 rfl rfl (fun _=>rfl) rfl fun S0=>?_;have hln:=hB.len;apply qf [];repeat' (first|apply And.intro|(intro h;try exact cDd)|exact cSd|apply qd []|refine exr ?_|refine qk ?_)
 refine ke (X:=Nat×List za) (fun (k,out)=>⟨[(0,.a (wy its)),(3,.tp 0),(6,.a (wy its)),(7,.i its.length),(8,.i k)],[(0,some (.tip 3 107 (out.map vo)))],1⟩)
  (fun (k,out)=>k≤its.length∧out.length≤2 * k∧∃ prev,(prev=true↔∃ y,0<k∧its[k - 1]? = some y∧y.kind≠1)∧out++jw prev (its.drop k)=y0 its) (fun (k,out)=>its.length - k) (0,[]) ⟨by omega,by simp,false,by simp,rfl⟩ ?_ ?_
 ·skip
  repeat' (first|apply And.intro|(intro h;try exact cDd)|exact cSd|apply qd []|refine exr ?_|refine qk ?_)
  all_goals (simp;done)
 ·rintro⟨k,out⟩ ⟨hk,lj,prev,hpv,a8⟩
  by_cases i8:k<its.length
  ·have hx:its[k]? = some its[k]:=List.getElem?_eq_getElem i8
   have m7:(its.map vo)[k]? = some (vo its[k]):=by rw [List.getElem?_map,hx];rfl
   have hxf:=hB.fld its[k] (List.getElem_mem i8);rw [List.drop_eq_getElem_cons i8,jw] at a8;generalize its[k]=x at hx m7 a8 hxf;have gp:=fun st=>zao x st hxf;have g9:(out.map vo).length=out.length:=by simp
   have sc:(decide (x.kind≠1)=true↔∃ y,0<k+1∧its[k+1 - 1]? = some y∧y.kind≠1):=by
    rw [decide_eq_true_iff,Nat.add_sub_cancel,hx];constructor
    ·intro h
     exact⟨x,by omega,rfl,h⟩
    ·rintro⟨y,_,h1,h2⟩
     simp only [Option.some.injEq] at h1;rw [h1];exact h2
   by_cases hk0:k=0
   ·have hp:¬ (prev=true):=fun h=>by
     obtain⟨_,h,_⟩:=hpv.1 h;omega
    rw [if_neg (fun h=>hp h.1)] at a8;apply qf [];repeat' (first|apply And.intro|(intro h;try exact cDd)|(refine Exists.intro (k) ⟨by omega,_,m7,?_⟩)|exact⟨Tryz.call132⟩|refine cpe gp ?_|(refine Exists.intro (k+1,out++[x]) ⟨⟨by omega,by simp;omega,_,sc,by rw [← a8];simp⟩,by simp only;omega,?_⟩)|exact cSd|apply qd []|refine exr ?_|refine qk ?_)
    all_goals first|(simp [SV.evs,SV.ev];done)|(simp [SV.evs];omega)
   ·obtain⟨y,hy⟩:∃ y,its[k - 1]? = some y:=⟨_,List.getElem?_eq_getElem (by omega:k - 1<its.length)⟩
    have hym:(its.map vo)[k - 1]? = some (vo y):=by rw [List.getElem?_map,hy];rfl
    have hpy:(prev=true↔y.kind≠1):=by
     rw [hpv];constructor
     ·rintro⟨z,_,h1,h2⟩
      rw [hy] at h1;simp only [Option.some.injEq] at h1;rw [h1];exact h2
     ·exact fun h=>⟨y,by omega,hy,h⟩
    by_cases hb:x.kind≠1∧y.kind≠1
    ·rw [if_pos ⟨hpy.2 hb.2,hb.1⟩] at a8
     obtain⟨o8,bm⟩:=hb;apply qf [];repeat' (first|apply And.intro|(intro h;try exact cDd)|(refine Exists.intro (k) ⟨by omega,_,m7,?_⟩)|(refine Exists.intro (k - 1) ⟨by omega,_,hym,?_⟩)|exact⟨Tryz.call132⟩|refine cpe gp ?_|(refine Exists.intro (k+1,out++[⟨1,[10],[]⟩,x]) ⟨⟨by omega,by simp;omega,_,sc,by rw [← a8];simp⟩,by simp only;omega,?_⟩)|exact cSd|apply qd []|refine exr ?_|refine qk ?_)
     all_goals first|(simp [SV.evs,SV.ev];done)|(simp [SV.evs];omega)
    ·rw [if_neg (fun h=>hb ⟨h.2,hpy.1 h.1⟩)] at a8
     apply qf [];repeat' (first|apply And.intro|(intro h;try exact cDd)|(refine Exists.intro (k) ⟨by omega,_,m7,?_⟩)|(refine Exists.intro (k - 1) ⟨by omega,_,hym,?_⟩)|exact⟨Tryz.call132⟩|refine cpe gp ?_|(refine Exists.intro (k+1,out++[x]) ⟨⟨by omega,by simp;omega,_,sc,by rw [← a8];simp⟩,by simp only;omega,?_⟩)|exact absurd ⟨by assumption,by assumption⟩ hb|exact cSd|apply qd []|refine exr ?_|refine qk ?_)
     all_goals first|(simp [SV.evs,SV.ev];done)|(simp [SV.evs];omega)
  ·have i8:k=its.length:=by omega
   subst i8;rw [List.drop_length,jw,List.append_nil] at a8;rw [← a8];apply qf [];repeat' (first|apply And.intro|(intro h;try exact cDd)|exact cSd|apply qd []|refine exr ?_|refine qk ?_)
theorem zf9 (its:List za) (st:List AObj) (hl:its.length≤4000000) (hr:(jf its).length≤1000000000000):qn E 89 [wy its] st fun r st'=>r=Sv (jf its)∧st'=st:=by
 refine zb (q8 _) (qr Tryz.func89 rfl (Nat.le_of_ble_eq_true rfl) ?_);have g9:(its.map vo).length=its.length:=by simp
 repeat' (first|(apply qfl;exact rfl)|apply qm|apply qt|apply qg|apply qh|apply ql|apply qj|(apply z6;(iterate 4 exact rfl)))
 refine qau its (fun pre s=>∃ q,(q = .v (.pointer none)∨q = .bx (st.length+0) 0 0)∧StE [(3,.bx (st.length+0) 0 0),(6,wy its),(7,Iv its.length),(8,Iv pre.length)] st [bldO 0 q (jf pre) (st.length+1),.tip (jf pre).length 1 5] s) ⟨_,.inl rfl,qb8 ⟨rfl,rfl,congrArg (fun n:Nat=>Iv (n:Int)) g9,rfl,trivial⟩ rfl⟩ ?_ ?_
 ·rintro _ ⟨q,hq,t,ext,rfl⟩
  repeat' (first|apply qm|apply qg|apply qh|apply qj|(apply qu;(iterate 3 exact rfl))|(apply qe;exact rfl;apply wv;exact cAo)|apply ji|apply q6|(refine qp Tryz.call62 (qfm st _ _ _ _ 0 1 0 _ _ rfl rfl rfl) ?_))
  exact qo rfl (zf rfl) ⟨rfl,yb _ _ _ _⟩
 ·rintro pre x rest _ sm ⟨q,hq,t,ext,rfl⟩
  have b9:its.length=pre.length+(rest.length+1):=by rw [sm];simp
  have c8:(its.map vo)[pre.length]? = some (vo x):=by rw [sm];simp
  have cx:(jf pre).length+x.raw.length≤1000000000000:=by
   have e:x::rest=[x]++rest:=rfl;rw [sm,qed,e,qed,qee] at hr;simp only [List.length_append] at hr;omega
  repeat' (first|apply qm|apply qt|apply qg|apply qh|(apply qu;(iterate 3 exact rfl))|(apply qe;exact rfl;apply vk;exact cAo)|(apply jp;exact rfl;exact rfl)|(apply zh;(iterate 3 exact rfl))|(apply jh;(iterate 3 exact rfl))|(apply jc;(iterate 5 exact rfl))|(apply zz;(iterate 11 exact rfl))|apply qw|(apply j6 (n:=pre.length);(iterate 5 exact rfl);exact c8))
  refine qp Tryz.call65 (qgs st _ _ _ _ 0 1 0 _ _ _ rfl rfl ?_ ?_ rfl) ?_;(exact hq);(omega);repeat' (first|apply qg|apply qh|apply ql|(apply zn;exact rfl;exact rfl;exact zg (by omega) (by omega)))
  refine⟨_,.inr rfl,y3 ⟨rfl,rfl,rfl,?_,trivial⟩ ?_⟩
  ·rw [qbz pre x];rfl
  ·rw [qed,qee];rfl
theorem zcg (its:List za) (st:List AObj) (hB:ItsB its) (hr:(jf (y0 its)).length≤1000000000000):qn E 52 [wy its] st fun r st'=>r=Sv (jf (y0 its))∧st'=st:=by
 refine zt [.a (wy its)] (q8 _) Tryz.func52 rfl rfl (fun _=>rfl) rfl fun S0=>?_;have h1:=fun st=>zbx its st hB;have hal:=qt1 false its;have hln:=hB.len;have h2:=fun st=>zf9 (y0 its) st (by unfold y0;omega) hr;apply qf [];repeat' (first|apply And.intro|(intro h;try exact cDd)|exact⟨Tryz.call90⟩|refine cpe h1 ?_|exact⟨Tryz.call89⟩|refine cpe h2 ?_|exact cSd|apply qd []|refine exr ?_|refine qk ?_)
theorem zbi (l:q7) (st:List AObj) (hB:ItsB (z7 l)):qn E 53 [vp l] st fun r st'=>r=wy (z7 l)∧st'=st:=by
 refine zt [.a (vp l)] (qfr _) Tryz.func53 rfl rfl (fun _=>rfl) rfl fun S0=>?_;have hln:=hB.len;have ld:(z7 l).length=l.ents.length:=by simp [z7]
 apply qf [];repeat' (first|apply And.intro|(intro h;try exact cDd)|exact cSd|apply qd []|refine exr ?_|refine qk ?_)
 refine ke (X:=Nat) (fun k=>⟨[(3,.tp 0),(12,.a (.sl 4 (l.ents.map entA) none)),(13,.i l.ents.length),(14,.i k)],[(0,some (.tip 3 107 (((z7 l).take k).map vo)))],1⟩)
  (fun k=>k≤l.ents.length) (fun k=>l.ents.length - k) 0 (by omega) ?_ ?_
 ·skip
  repeat' (first|apply And.intro|(intro h;try exact cDd)|exact cSd|apply qd []|refine exr ?_|refine qk ?_)
  all_goals (simp;done)
 ·rintro k hk
  by_cases i8:k<l.ents.length
  ·have hx:l.ents[k]? = some l.ents[k]:=List.getElem?_eq_getElem i8
   have m7:(l.ents.map entA)[k]? = some (entA l.ents[k]):=by rw [List.getElem?_map,hx];rfl
   have hxi:(z7 l)[k]? = some l.ents[k].x:=by unfold z7;rw [List.getElem?_map,hx];rfl
   have hxf:=hB.fld l.ents[k].x (List.mem_of_getElem? hxi);have cd:(z7 l).take (k+1)=(z7 l).take k++[l.ents[k].x]:=by rw [List.take_add_one,hxi];rfl
   have htl:(((z7 l).take k).map vo).length≤k:=by simp;omega
   generalize l.ents[k]=e at hx m7 hxi hxf cd;have gp:=fun st=>qbv e.x.fields st hxf;apply qf [];repeat' (first|apply And.intro|(intro h;try exact cDd)|(refine Exists.intro (k) ⟨by omega,_,m7,?_⟩)|exact⟨Tryz.call91⟩|refine cpe gp ?_|(refine Exists.intro (k+1) ⟨by omega,by omega,?_⟩)|exact cSd|apply qd []|refine exr ?_|refine qk ?_)
   all_goals first|(rw [cd];simp;done)|(simp [SV.evs];omega)
  ·have i8:k=l.ents.length:=by omega
   subst i8;have e:(z7 l).take l.ents.length=z7 l:=List.take_of_length_le (by omega);rw [e];apply qf [];repeat' (first|apply And.intro|(intro h;try exact cDd)|exact cSd|apply qd []|refine exr ?_|refine qk ?_)
theorem q20 (l:q7) (st:List AObj) (hB:ItsB (z7 l)) (hr:(qai l).length≤1000000000000):qn E 28 [vp l] st fun r st'=>r=Sv (qai l)∧st'=st:=by
 refine zt [.a (vp l)] (q8 _) Tryz.func28 rfl rfl (fun _=>rfl) rfl fun S0=>?_;have h1:=fun st=>zbi l st hB;have h2:=fun st=>zcg (z7 l) st hB hr;apply qf [];repeat' (first|apply And.intro|(intro h;try exact cDd)|exact⟨Tryz.call53⟩|refine cpe h1 ?_|exact⟨Tryz.call52⟩|refine cpe h2 ?_|exact cSd|apply qd []|refine exr ?_|refine qk ?_)
theorem qhp (es:List EntV):∀ x∈es.map entA,x.cells.length=4:=fun x hx=>by
 obtain⟨e,_,rfl⟩:=List.mem_map.1 hx;rfl
theorem qcj (es:List EntV):(flat (es.map entA)).length=es.length * 4:=by
 rw [zq (qhp es),List.length_map]
theorem qf3 (a b:List EntV):flat ((a++b).map entA)=flat (a.map entA)++flat (b.map entA):=by rw [List.map_append,wc]
theorem qdg (A B xs:List AV) {off:Nat} (h:A.length=off):zu (A++B) off xs=A++xs++B.drop xs.length:=by
 unfold zu;rw [← h,List.take_left,List.drop_append,List.drop_eq_nil_of_le (by omega)];simp
theorem qg9 {cs xs:List AV} {off:Nat} (h:off+xs.length≤cs.length):(zu cs off xs).length=cs.length:=by
 unfold zu;simp;omega
theorem zib (es:List EntV) (i:Nat) (hi:i<es.length) (hl:es.length<1000000) (st:List AObj) (c:AV) (hc:OwnS st 4 109 (es.map entA) c):qn E 170 [c,Iv i,Iv ((i:Int)+1)] st fun r st'=>OwnR 4 109 ((es.take i++es.drop (i+1)).map entA) st c r st':=by
 have g9:(es.map entA).length=es.length:=by simp
 rcases hc with⟨h0,_⟩ | ⟨o,ver,cap,pad,rfl,e2,e3,e4,e5,e6⟩
 ·rw [h0] at g9
  simp at g9;omega
 rw [g9] at e5 ⊢;have d5:=lt_of_getElem? e2;have g8:=qcj es
 have o7:flat (es.map entA)++pad=flat ((es.take i).map entA)++(flat ((es.drop i).map entA)++pad):=by
  rw [← List.append_assoc,← qf3,List.take_append_drop]
 have mv:(flat ((es.take i).map entA)).length=i * 4:=by rw [qcj,List.length_take,Nat.min_eq_left (by omega)]
 have nc:(flat ((es.drop (i+1)).map entA)).length=(es.length - (i+1)) * 4:=by rw [qcj,List.length_drop]
 obtain⟨B1,lv⟩:∃ B1,(flat ((es.drop i).map entA)++pad).drop (flat ((es.drop (i+1)).map entA)).length=B1:=⟨_,rfl⟩
 have fm:zu (flat (es.map entA)++pad) (i * 4) (flat ((es.drop (i+1)).map entA))=flat ((es.take i++es.drop (i+1)).map entA)++B1:=by
  rw [o7,qdg _ _ _ mv,qf3,lv]
 have fk:(flat ((es.take i++es.drop (i+1)).map entA)++B1).length=(cap+1) * 4:=by
  rw [← fm,qg9 (by rw [e3,nc];omega),e3]
 have s8:(es.take i++es.drop (i+1)).length=es.length - 1:=by simp;omega
 -- what is appended
 obtain⟨q,hq⟩:∃ q,(if cap+1=i+1 then 0 else 0+(i+1) * 4)=q:=⟨_,rfl⟩
 have hqz:((flat (es.map entA)++pad).drop q).take ((es.length - (i+1)) * 4)=flat ((es.drop (i+1)).map entA)∧q+(es.length - (i+1)) * 4≤(flat (es.map entA)++pad).length:=by
  rw [e3];by_cases hci:cap+1=i+1
  ·have:es.length - (i+1)=0:=by omega
   rw [if_pos hci] at hq;rw [this,← hq,List.drop_eq_nil_of_le (by omega:es.length≤i+1)];exact⟨by simp [flat],by omega⟩
  ·rw [if_neg hci] at hq
   rw [← hq];refine⟨?_,by omega⟩
   have e:flat (es.map entA)++pad=flat ((es.take (i+1)).map entA)++(flat ((es.drop (i+1)).map entA)++pad):=by
    rw [← List.append_assoc,← qf3,List.take_append_drop]
   have e':(flat ((es.take (i+1)).map entA)).length=0+(i+1) * 4:=by rw [qcj,List.length_take,Nat.min_eq_left (by omega)];omega
   rw [e,← e',List.drop_left,← nc,List.take_left]
 have i7:SrcA st 4 (.os o ver q (es.length - (i+1)) (cap+1 - (i+1))) (es.length - (i+1)) (es.length - (i+1)) (flat ((es.drop (i+1)).map entA)):=by
  have:=SrcA.os (st:=st) (sz:=4) o ver q (es.length - (i+1)) (cap+1 - (i+1)) (es.length - (i+1)) _ _ e2 hqz.2 (by rw [hqz.1];exact qbq fun _=>rfl);rw [hqz.1] at this;exact this
 refine qr Tryz.func170 rfl (Nat.le_of_ble_eq_true rfl) ?_;rw [List.append_nil];repeat' (first|(refine zv (sz:=4) (i:=i) (j:=i+1) (m:=es.length) rfl rfl rfl ?_ ?_ ?_ ?_ ?_ ?_ ?_;exact⟨_,rfl⟩;exact⟨_,rfl⟩;exact⟨_,rfl⟩;omega;omega;omega)|apply qm|apply qg|apply qh|apply ql|apply qj|(apply qu;(iterate 3 exact rfl))|(apply qe;exact rfl;apply wv;exact cAo)|(apply z6;(iterate 4 exact rfl))|apply qw)
 refine qsz (fun s=>StA [(0,.os o ver 0 (i+(es.length - (i+1))) (cap+1)),(7,Iv es.length)] (st.set o (.cells ver 109 (flat ((es.take i++es.drop (i+1)).map entA)++B1))) [] s) ?_ ?_
 ·refine qik rfl rfl ?_
  (apply xy 0;exact rfl;kernel_rfl;kernel_rfl;kernel_rfl;exact rfl;exact yq)
  (apply xy 1;exact rfl;kernel_rfl;kernel_rfl;kernel_rfl;exact rfl;exact yq)
  (apply xy 3;exact rfl;kernel_rfl;kernel_rfl;kernel_rfl;exact rfl;exact yq)
  (apply xy 4;exact rfl;kernel_rfl;kernel_rfl;kernel_rfl;exact rfl;exact yq)
  refine wh [2,5] (by kernel_rfl) rfl ⟨⟨_,rfl,?_⟩,⟨_,rfl,?_⟩,trivial⟩
  ·(refine zv (sz:=4) (i:=0) (j:=i) (m:=cap+1) rfl rfl rfl ?_ ?_ ?_ ?_ ?_ ?_ ?_;exact rfl;exact⟨_,rfl⟩;exact rfl;omega;omega;omega)
   apply qh;refine wh [5] (by kernel_rfl) rfl ⟨⟨_,rfl,?_⟩,trivial⟩
   (refine zv (sz:=4) (i:=i+1) (j:=es.length) (m:=cap+1) rfl rfl rfl ?_ ?_ ?_ ?_ ?_ ?_ ?_;exact⟨_,rfl⟩;exact⟨rfl,rfl⟩;exact rfl;omega;omega;omega;rw [hq])
   apply qh;refine wh [6] (by kernel_rfl) rfl ⟨⟨_,rfl,?_⟩,trivial⟩
   (refine qlu (bytes:=56) (o:=o) (ver:=ver) (n:=i) (cap:=cap+1) (m:=es.length - (i+1)) (cs:=flat (es.map entA)++pad) rfl rfl e2 i7 rfl rfl ⟨⟨_,_,rfl,rfl,rfl,rfl,rfl⟩⟩ (by omega) e3 ?_;rw [fm])
   apply qh
   (apply xy 7;exact rfl;kernel_rfl;kernel_rfl;kernel_rfl;exact rfl;exact qt7)
   refine qb2 (by kernel_rfl) ?_;exact jg ⟨rfl,rfl,trivial⟩
  ·(refine zv (sz:=4) (i:=i+1) (j:=es.length) (m:=cap+1) rfl rfl rfl ?_ ?_ ?_ ?_ ?_ ?_ ?_;exact⟨_,rfl⟩;exact⟨rfl,rfl⟩;exact rfl;omega;omega;omega;rw [hq])
   apply qh;refine wh [2] (by kernel_rfl) rfl ⟨⟨_,rfl,?_⟩,trivial⟩
   (refine zv (sz:=4) (i:=0) (j:=i) (m:=cap+1) rfl rfl rfl ?_ ?_ ?_ ?_ ?_ ?_ ?_;exact rfl;exact⟨_,rfl⟩;exact rfl;omega;omega;omega)
   apply qh;refine wh [6] (by kernel_rfl) rfl ⟨⟨_,rfl,?_⟩,trivial⟩
   (refine qlu (bytes:=56) (o:=o) (ver:=ver) (n:=i) (cap:=cap+1) (m:=es.length - (i+1)) (cs:=flat (es.map entA)++pad) rfl rfl e2 i7 rfl rfl ⟨⟨_,_,rfl,rfl,rfl,rfl,rfl⟩⟩ (by omega) e3 ?_;rw [fm])
   apply qh
   (apply xy 7;exact rfl;kernel_rfl;kernel_rfl;kernel_rfl;exact rfl;exact qt7)
   refine qb2 (by kernel_rfl) ?_;exact jg ⟨rfl,rfl,trivial⟩
 ·rintro _ ⟨t,rfl⟩
  have t6:(st.set o (AObj.cells ver 109 (flat ((es.take i++es.drop (i+1)).map entA)++B1)))[o]? = some (.cells ver 109 (flat ((es.take i++es.drop (i+1)).map entA)++B1)):=j8 e2
  have hqq:(if cap+1=i+(es.length - (i+1)) then 0 else 0+(i+(es.length - (i+1))) * 4)=(es.length - 1) * 4:=by
   rw [if_neg (by omega)];omega
  have rp:(flat ((es.take i++es.drop (i+1)).map entA)).length=(es.length - 1) * 4:=by rw [qcj,s8]
  repeat' (first|(refine zv (sz:=4) (i:=i+(es.length - (i+1))) (j:=es.length) (m:=cap+1) rfl rfl rfl ?_ ?_ ?_ ?_ ?_ ?_ ?_;exact⟨_,rfl⟩;exact⟨_,rfl⟩;exact rfl;omega;omega;omega;rw [hqq])|(refine qw9 (sz:=4) (bytes:=56) rfl t6 rfl ⟨⟨_,_,rfl,rfl,rfl,rfl,rfl⟩⟩ rfl (by rw [fk];omega) fun zs hz=>?_)|apply qm|apply qg|apply qh|apply ql|apply qj|(apply z6;(iterate 4 exact rfl))|apply q6)
  refine qo rfl (zf rfl) ?_
  show OwnR 4 109 _ st _ (.os o ver 0 (i+(es.length - (i+1))) (cap+1)) ((st.set o _).set o (.cells ver 109 (zu (flat ((es.take i++es.drop (i+1)).map entA)++B1) ((es.length - 1) * 4) zs)))
  rw [List.set_set,qdg _ _ _ rp,List.append_assoc];have hB1l:(es.length - 1) * 4+B1.length=(cap+1) * 4:=by rw [← rp,← List.length_append];exact fk
  have ft:zs.length=4:=by rw [hz];omega
  refine⟨.inr ⟨o,ver,cap,zs++B1.drop zs.length,?_,j8 e2,?_,qhp _,?_,e6⟩,by simp,fun j hj b8=>List.getElem?_set_ne fun e=>b8 (by rw [e];rfl),fun o' d6=>.inr d6⟩
  ·rw [List.length_map,s8]
   congr 1;omega
  ·rw [List.length_append,List.length_append,List.length_drop,rp,ft]
   omega
  ·rw [List.length_map,s8]
   omega
theorem zf5 (e:EntV) (st:List AObj) (c:AV) (hnr:qb1 c):qn E 171 [c,Iv 0,.sl 4 [entA e] none] st fun r st'=>OwnR 4 109 [entA e] st c r st':=by
 refine qr Tryz.func171 rfl (Nat.le_of_ble_eq_true rfl) ?_;rw [List.append_nil];repeat' (first|(apply z6 (n:=1);(iterate 4 exact rfl))|(refine qxe (sz:=4) rfl hnr.val rfl rfl ?_ ?_;exact⟨_,rfl⟩)|(apply z6;exact rfl;exact hnr.len;exact rfl;exact rfl)|(refine qds (sz:=4) (ys:=[entA e]) (bytes:=56) hnr.val (fun _ _ h=>h) rfl rfl ⟨⟨_,_,rfl,rfl,rfl,rfl,rfl⟩⟩ rfl (by simp) (by simp [maxLen]) (by simp) fun cap pad q1 q2 q3 q4=>?_)|apply qm|apply qg|apply qh|apply ql|apply qj|(apply qu;(iterate 3 exact rfl))|(apply qe;exact rfl;apply vk;exact cAo)|(apply qe;exact rfl;apply wv;exact cAo)|apply qw|apply q6)
 refine qo rfl (zf rfl) ?_
 show OwnR 4 109 _ st c (.os st.length 0 0 _ (cap+1)) (st++[_])
 refine⟨.inr ⟨_,0,cap,pad,rfl,wd,q1,q2,q3,q4⟩,qfc,fun j hj _=>List.getElem?_append_left hj,fun o ho=>?_⟩;simp only [zk,Option.some.injEq] at ho;left;omega
theorem zf6 (es:List EntV) (e:EntV) (hl:es.length<1000000) (st:List AObj) (o ver cap:Nat) (pad:List AV) (e2:st[o]? = some (.cells ver 109 (flat (es.map entA)++pad))) (e3:(flat (es.map entA)++pad).length=(cap+1) * 4) (e5:es.length≤cap+1) (e6:cap+1≤maxLen) :
  qn E 171 [.os o ver 0 es.length (cap+1),Iv es.length,.sl 4 [entA e] none] st fun r st'=>OwnR 4 109 (es.map entA++[entA e]) st (.os o ver 0 es.length (cap+1)) r st':=by
 have g9:(es.map entA).length=es.length:=by simp
 have d5:=lt_of_getElem? e2
 have hV0:Vec 4 109 o (es.map entA) (.os o ver 0 es.length (cap+1)) (.cells ver 109 (flat (es.map entA)++pad)):=by
  have:=Vec.os (o:=o) (T:=109) (xs:=es.map entA) ver (cap+1) pad e3 (qhp _) (by omega) e6;rw [g9] at this;exact this
 refine qr Tryz.func171 rfl (Nat.le_of_ble_eq_true rfl) ?_;rw [List.append_nil];repeat' (first|(apply z6 (n:=1);(iterate 4 exact rfl))|(refine zv (sz:=4) (i:=es.length) (j:=es.length) (m:=cap+1) rfl rfl rfl ?_ ?_ ?_ ?_ ?_ ?_ ?_;exact⟨_,rfl⟩;exact⟨rfl,rfl⟩;exact rfl;omega;omega;omega)|(refine qlv (sz:=4) (bytes:=56) (o:=o) (xs:=es.map entA) (ys:=[entA e]) rfl (fun _ _ h=>h) hV0 e2 rfl rfl ⟨⟨_,_,rfl,rfl,rfl,rfl,rfl⟩⟩ rfl (by simp [maxLen];omega) (by simp;omega) fun a' ob' hV=>?_)|apply qm|apply qg|apply qh|apply ql|apply qj|(apply qu;(iterate 3 exact rfl))|(apply qe;exact rfl;apply vk;exact cAo)|(apply qe;exact rfl;apply wv;exact cAo)|(apply z6;(iterate 4 exact rfl))|apply qw|apply q6)
 rcases qsn hV with⟨q,_,_⟩ | ⟨ver',cap',pad',rfl,rfl,q1,q2,q3,q4⟩
 ·simp at q
 ·obtain⟨cap',rfl⟩:∃ c,cap'=c+1:=⟨cap' - 1,by simp at q3;omega⟩
  refine qo rfl (zf rfl) ?_
  show OwnR 4 109 _ st _ (.os o ver' 0 _ (cap'+1)) (st.set o _)
  exact⟨.inr ⟨o,ver',cap',pad',rfl,j8 e2,q1,q2,q3,q4⟩,by simp,fun j hj b8=>List.getElem?_set_ne fun e=>b8 (by rw [e];rfl),fun o' d6=>.inr d6⟩
theorem qzc (w:World) (a b:Addr) (la ca lb cb:Nat) (tA tB:TypeId) (kA kB:Nat) (h1:a.block≠b.block) (h2:w.shape? a.block=some (tA,kA)) (h3:w.shape? b.block=some (tB,kB)) (h4:kA≠0) (h5:w.frozen? b=false) (h6:w.frozen? { block:=b.block,off:=kB }=false) :
  (callFunc 198 #[.slice (some a) la ca,.slice (some b) lb cb]).run E.P w = .ok (.value (.bool false)) w:=by
 have hz:∀ w,(Go.sizeOf 109).run E.P w = .ok 4 w:=fun w=>(vb (agg:=true) rfl w).1
 rw [run_callFunc_extern (P:=E.P) Tryz.func198 (by kernel_rfl) (by kernel_rfl) (by kernel_rfl) (e:=Extern.SlicesOverlaps.overlaps #[103,103] #[4]) (by kernel_rfl),
  qp1 w 103 4 109 rfl 4 hz a b la ca lb cb h1 tA tB kA kB h2 h3 h4 h5 h6]
 rfl
structure InsB (es:List EntV) (e:EntV) (i cap:Nat) (pad:List AV):Prop where
 t4:(flat ((es.take i).map entA)).length=i * 4
 d4:(flat ((es.drop i).map entA)).length=(es.length - i) * 4
 split:flat (es.map entA)++pad=flat ((es.take i).map entA)++(flat ((es.drop i).map entA)++pad)
 take:(flat (es.map entA)++pad).take (i * 4)=flat ((es.take i).map entA)
 drop:((flat (es.map entA)++pad).drop (0+i * 4)).take ((es.length - i) * 4)=flat ((es.drop i).map entA)
 new:flat ((es.take i++e::es.drop i).map entA)=flat ((es.take i).map entA)++flat [entA e]++flat ((es.drop i).map entA)
 nl:(es.take i++e::es.drop i).length=es.length+1
 src:∀ o ver L c' (S:List AObj),(flat (es.map entA)++pad).length=(cap+1) * 4→es.length≤cap+1→S[o]? = some (.cells ver 109 (flat (es.map entA)++pad))→SrcA S 4 (.os o ver (0+i * 4) L c') L (es.length - i) (flat ((es.drop i).map entA))
theorem insB (es:List EntV) (e:EntV) (i cap:Nat) (pad:List AV) (hi:i<es.length):InsB es e i cap pad:=by
 have mv:(flat ((es.take i).map entA)).length=i * 4:=by rw [qcj,List.length_take,Nat.min_eq_left (by omega)]
 have nc:(flat ((es.drop i).map entA)).length=(es.length - i) * 4:=by rw [qcj,List.length_drop]
 have o7:flat (es.map entA)++pad=flat ((es.take i).map entA)++(flat ((es.drop i).map entA)++pad):=by
  rw [← List.append_assoc,← qf3,List.take_append_drop]
 have rn:((flat (es.map entA)++pad).drop (0+i * 4)).take ((es.length - i) * 4)=flat ((es.drop i).map entA):=by rw [Nat.zero_add,o7,← mv,List.drop_left,← nc,List.take_left]
 refine⟨mv,nc,o7,by rw [o7,← mv,List.take_left],rn,?_,by simp;omega,fun o ver L c' S e3 e5 hS=>?_⟩
 ·rw [qf3]
  simp [flat]
 ·have:=SrcA.os (st:=S) (sz:=4) o ver (0+i * 4) L c' (es.length - i) _ _ hS (by rw [e3];omega) (by rw [rn];exact qbq fun _=>rfl)
  rw [rn] at this;exact this
set_option maxHeartbeats 4000000 in
theorem zf8 (es:List EntV) (e:EntV) (i:Nat) (hi:i<es.length) (hl:es.length<1000000) (st:List AObj) (o ver cap:Nat) (pad:List AV) (e2:st[o]? = some (.cells ver 109 (flat (es.map entA)++pad))) (e3:(flat (es.map entA)++pad).length=(cap+1) * 4) (e5:es.length+1≤cap+1) (e6:cap+1≤maxLen) :
  qn E 171 [.os o ver 0 es.length (cap+1),Iv i,.sl 4 [entA e] none] st fun r st'=>OwnR 4 109 ((es.take i++e::es.drop i).map entA) st (.os o ver 0 es.length (cap+1)) r st':=by
 have hI:=insB es e i cap pad hi;have d5:=lt_of_getElem? e2;have rq:(flat [entA e]).length=4:=rfl;have mv:=hI.t4;have nc:=hI.d4;have rv:(if cap+1=i then 0 else 0+i * 4)=0+i * 4:=if_neg (by omega);have bp:(if cap+1=i+1 then 0 else 0+(i+1) * 4)=(i+1) * 4:=by rw [if_neg (by omega)];omega
 obtain⟨B1,lv⟩:∃ B1,(flat ((es.drop i).map entA)++pad).drop 4=B1:=⟨_,rfl⟩;obtain⟨A1,bg⟩:∃ A1,(flat ((es.drop i).map entA)++pad).take 4=A1:=⟨_,rfl⟩
 have hA1l:A1.length=4:=by
  rw [← bg,List.length_take,List.length_append,nc];omega
 obtain⟨X1,hX1⟩:∃ X1,flat ((es.take i).map entA)++A1++flat ((es.drop i).map entA)++B1.drop ((es.length - i) * 4)=X1:=⟨_,rfl⟩
 have gf:zu (flat (es.map entA)++pad) ((i+1) * 4) (flat ((es.drop i).map entA))=X1:=by
  have e1:flat (es.map entA)++pad=(flat ((es.take i).map entA)++A1)++B1:=by rw [hI.split,List.append_assoc,← bg,← lv,List.take_append_drop]
  rw [e1,qdg _ _ _ (by rw [List.length_append,mv,hA1l];omega),nc,hX1]
 have dt:zu X1 (0+i * 4) (flat [entA e])=flat ((es.take i++e::es.drop i).map entA)++B1.drop ((es.length - i) * 4):=by
  have e1:X1=flat ((es.take i).map entA)++(A1++(flat ((es.drop i).map entA)++B1.drop ((es.length - i) * 4))):=by rw [← hX1];simp
  rw [e1,qdg _ _ _ (by rw [mv];omega),rq,List.drop_append_of_le_length (by omega),List.drop_eq_nil_of_le (by omega:A1.length≤4),hI.new];simp
 have hsl1:X1.length=(cap+1) * 4:=by
  rw [← gf,qg9 (by rw [e3,nc];omega),e3]
 have hsl2:(flat ((es.take i++e::es.drop i).map entA)++B1.drop ((es.length - i) * 4)).length=(cap+1) * 4:=by
  rw [← dt,qg9 (by rw [hsl1,rq];omega),hsl1]
 have i7:=hI.src o ver (es.length+1 - i) (cap+1 - i) st e3 (by omega) e2;have nt:=hI.nl;generalize hXn:flat ((es.take i++e::es.drop i).map entA)++B1.drop ((es.length - i) * 4)=Xn at dt hsl2;clear hX1 lv bg hI mv nc;generalize hdz:flat ((es.drop i).map entA)=dz at gf i7;refine qr Tryz.func171 rfl (Nat.le_of_ble_eq_true rfl) ?_;rw [List.append_nil];generalize flat (es.map entA)++pad=X0 at e2 e3 gf;repeat' (first|apply qm|apply qg|apply qh|apply ql|apply qj)
 refine zv (o:=o) (ver:=ver) (off:=0) (len:=es.length) (cap:=cap+1) (sz:=4) (i:=i) (j:=es.length) (m:=cap+1) rfl rfl rfl ?_ ?_ ?_ (by omega) (by omega) (by omega) ?_
 ·exact⟨_,rfl⟩
 ·exact⟨rfl,rfl⟩
 ·exact rfl
 repeat' (first|(apply z6 (n:=1);(iterate 4 exact rfl))|apply qm|apply qg|apply qh|apply ql|apply qj|(apply qu;(iterate 3 exact rfl))|(apply qe;exact rfl;apply wv;exact cAo)|(apply z6;(iterate 4 exact rfl))|(apply zn;exact rfl;exact rfl;exact zg (by omega) (by omega))|apply qw)
 refine qqg rfl rfl rfl ?_;repeat' (first|apply qm|apply qg|apply qh|apply ql|(apply qu;(iterate 3 exact rfl))|(apply qe;exact rfl;apply wv;exact cAo)|(apply zn;exact rfl;exact rfl;exact zg (by omega) (by omega))|apply qw)
 refine zv (o:=o) (ver:=ver) (off:=0) (len:=es.length) (cap:=cap+1) (sz:=4) (i:=0) (j:=es.length+1) (m:=cap+1) rfl rfl rfl ?_ ?_ ?_ (by omega) (by omega) (by omega) ?_
 ·exact rfl
 ·exact⟨_,rfl⟩
 ·exact rfl
 repeat' (first|apply qm|apply qg|apply qh|apply ql|apply qj|(apply zn;exact rfl;exact rfl;exact zg (by omega) (by omega)))
 refine zv (o:=o) (ver:=ver) (off:=0) (len:=es.length+1) (cap:=cap+1) (sz:=4) (i:=i+1) (j:=es.length+1) (m:=cap+1) rfl rfl rfl ?_ ?_ ?_ (by omega) (by omega) (by omega) ?_
 ·exact⟨_,rfl⟩
 ·exact⟨rfl,rfl⟩
 ·exact rfl
 rw [bp];repeat' (first|(apply zau;first|apply qm|apply qt|apply qg|(apply qe;exact rfl;apply vk;exact cAo)|(apply qe;exact rfl;apply wv;exact cAo)|(apply qe;exact rfl;apply qkp;exact cRa)|(apply qe;exact rfl;apply qqv;exact cRa)|(apply qe;exact rfl;apply cd_n <;> intro h)|(apply qe;exact rfl;apply cd_t;exact cRa)|(apply qe;exact rfl;apply cd_f;exact cRa)|(apply qe;exact rfl;apply cd_d <;> intro h)|(apply qe;exact rfl;apply cd_s <;> intro h)|apply qw|apply ji|apply q6)|(apply q4o;first|(apply zo;(iterate 4 exact rfl))|(apply qhl;(iterate 4 exact rfl)))|(apply zek;first|(apply qhx;exact cAo)|(apply qfa;exact cAo)|(apply qea;exact cAo)|(apply qu0;exact cAo)|(apply quz;exact cRa)|(apply qf5;exact cRa)|(apply qkv;exact cRa)|(apply qrd;exact cRa)|(apply qre <;> intro h)|(apply qcl;exact cRa)|(apply qyf;exact cRa)|(apply qmr;exact cRa)|(apply qbp;exact cRa)|(apply qc5 <;> intro h)|(apply qph <;> intro h))|(apply zej;first|apply qfx|(apply q2c;(iterate 4 exact rfl))|(apply q6l;exact rfl;exact rfl;exact zg (by omega) (by omega))|(apply q2e;(iterate 4 exact rfl);exact cAs;exact cAs)|(apply qoc;(iterate 5 exact rfl))|(apply qih;exact rfl;exact rfl;exact cOs)|(apply qep;(iterate 3 exact rfl))|(apply qob;(iterate 5 exact rfl))|(apply qii;(iterate 4 exact rfl))|(apply qqo;(iterate 3 exact rfl))|(apply q6j;(iterate 3 exact rfl);exact cAs)|(apply q2d;exact rfl;exact rfl)|(apply qxi;exact rfl;exact rfl)|(apply qxj;(iterate 3 exact rfl);omega)|(apply qt4;(iterate 3 exact rfl))|apply qd2|apply qmd|(apply qxh;exact rfl;exact rfl;exact zg (by omega) (by omega))|(apply zdt;(iterate 3 exact rfl))|(apply q2f;(iterate 3 exact rfl);exact cAs)|(apply q2b;(iterate 3 exact rfl);exact cAs)|(apply q3y;exact rfl;exact rfl))|(apply q4n;first|(apply qu;(iterate 3 exact rfl))|(apply vm;(iterate 3 exact rfl))|(apply kp;exact rfl;exact rfl;exact cOs)|(apply zn;exact rfl;exact rfl;exact zg (by omega) (by omega))|(apply qbs;exact rfl;exact rfl;exact zg (by omega) (by omega))|(apply yv;exact rfl;exact rfl)|(apply x3;exact rfl;exact rfl)|(apply qaj;exact rfl;exact rfl)|(apply qdo;exact rfl;exact rfl)|(apply qal;(iterate 3 exact rfl))|(apply qgf;(iterate 3 exact rfl))|(apply qc2;exact rfl;exact rfl;(first|exact ju _|exact rfl);first|exact ju _|exact rfl)|(apply qkl;exact rfl;exact rfl;(first|exact ju _|exact rfl);first|exact ju _|exact rfl)|(apply q6h;exact rfl;exact rfl;(first|exact ju _|exact rfl);first|exact ju _|exact rfl)|(apply qem;(iterate 3 exact rfl))|(apply qgp;(iterate 3 exact rfl)))|(apply q7f;first|(apply jh;(iterate 3 exact rfl))|(apply qlw;(iterate 5 exact rfl))|(apply jc;(iterate 5 exact rfl)))|(apply q7g;first|(apply qqk;exact rfl)|(apply kj;exact rfl)|(apply qhk;exact rfl))|(apply q4p;first|(apply qmc;(iterate 3 exact rfl);exact cAs)|(apply qma;(iterate 3 exact rfl);exact cAs)|(apply qfw;(iterate 4 exact rfl);exact cAs;exact cAs)|(apply qj0;(iterate 4 exact rfl);(first|assumption|omega|exact Nat.succ_le_succ (Nat.zero_le _)|(simp;omega));exact rfl))|(apply q7e;first|(apply kz;(iterate 3 exact rfl))|(apply z6;(iterate 4 exact rfl)))|(apply qs5;first|(apply zh;(iterate 3 exact rfl))|(apply xx;(iterate 4 exact rfl)))|(apply q4q;first|(apply qe4;(iterate 11 exact rfl))|(apply zz;(iterate 11 exact rfl)))|(apply zav;first|apply qh|apply ql|apply qj|(apply zp;exact rfl;exact rfl)|(apply q9;exact rfl;apply qg3;exact cAo)|(apply q9;exact rfl;apply qlc;exact cAo)|(apply q9;exact rfl;apply qwr;exact cRa)|(apply q9;exact rfl;apply qn0;exact cRa)|(apply q9;exact rfl;apply pk_t;exact cRa)|(apply q9;exact rfl;apply pk_f;exact cRa)|(apply vw;exact rfl;exact rfl)|apply qge|(apply jp;exact rfl;exact rfl)|(apply qa8;(iterate 4 exact rfl))|(apply qkm;(iterate 3 exact rfl))|(apply yw;(iterate 3 exact rfl);exact cAs)|(apply xh;(iterate 3 exact rfl))|(apply w9;(iterate 9 exact rfl))|(apply v7;exact rfl;exact rfl)|(apply qjj;(iterate 4 exact rfl);(first|assumption|omega|decide);exact rfl)|(apply qcb;(iterate 4 exact rfl);first|assumption|omega|decide)))
 refine qv0 (xs:=[entA e]) (o:=o) (ver:=ver) rfl rfl e2 (by simp [flat,AV.cells]) qzc ?_;repeat' (first|apply qm|apply qh|(apply kj;exact rfl)|(apply qe;exact rfl;apply qkp;exact cRa))
 refine qd3 [(0,.os o ver 0 (es.length+1) (cap+1)),(1,Iv i),(2,.sl 4 [entA e] none),(7,Iv 1)] st [] ⟨rfl,rfl,rfl,rfl,trivial⟩ rfl rfl fun t=>?_;refine qsz (fun s=>StA [(0,.os o ver 0 (es.length+1) (cap+1)),(1,Iv i),(2,.sl 4 [entA e] none)] (st.set o (.cells ver 109 X1)) [] s) ?_ ?_
 ·refine qik rfl rfl ?_
  (apply xy 0;exact rfl;kernel_rfl;kernel_rfl;kernel_rfl;exact rfl;exact yq)
  (apply xy 1;exact rfl;kernel_rfl;kernel_rfl;kernel_rfl;exact rfl;exact yq)
  (apply xy 2;exact rfl;kernel_rfl;kernel_rfl;kernel_rfl;exact rfl;exact yq)
  (apply xy 5;exact rfl;kernel_rfl;kernel_rfl;kernel_rfl;exact rfl;exact yq)
  (apply xy 6;exact rfl;kernel_rfl;kernel_rfl;kernel_rfl;exact rfl;exact yq)
  refine wh [3,7] (by kernel_rfl) rfl ⟨⟨_,rfl,?_⟩,⟨_,rfl,?_⟩,trivial⟩
  ·(apply zn;exact rfl;exact rfl;exact zg (by omega) (by omega))
   apply qh;refine wh [4,7] (by kernel_rfl) rfl ⟨⟨_,rfl,?_⟩,⟨_,rfl,?_⟩,trivial⟩
   ·(refine zv (o:=o) (ver:=ver) (off:=0) (len:=es.length+1) (cap:=cap+1) (sz:=4) (i:=i+1) (j:=es.length+1) (m:=cap+1) rfl rfl rfl ?_ ?_ ?_ (by omega) (by omega) (by omega) ?_;exact⟨_,rfl⟩;exact⟨rfl,rfl⟩;exact rfl;rw [bp])
    apply qh;refine wh [7] (by kernel_rfl) rfl ⟨⟨_,rfl,?_⟩,trivial⟩
    (refine zv (o:=o) (ver:=ver) (off:=0) (len:=es.length+1) (cap:=cap+1) (sz:=4) (i:=i) (j:=es.length+1) (m:=cap+1) rfl rfl rfl ?_ ?_ ?_ (by omega) (by omega) (by omega) ?_;exact⟨_,rfl⟩;exact⟨rfl,rfl⟩;exact rfl;rw [rv])
    apply qh;refine wh [8] (by kernel_rfl) rfl ⟨⟨_,rfl,?_⟩,trivial⟩
    (refine y5 (o:=o) (ver:=ver) (off:=(i+1) * 4) (sz:=4) (bytes:=56) (m:=es.length - i) rfl rfl e2 i7 ?_ rfl ⟨⟨_,_,rfl,rfl,rfl,rfl,rfl⟩⟩ ?_ ?_;(show min _ _=_;omega);(rw [e3];omega);rw [gf])
    apply qh;refine qb2 (by kernel_rfl) ?_;exact jg ⟨rfl,rfl,rfl,trivial⟩
   ·(refine zv (o:=o) (ver:=ver) (off:=0) (len:=es.length+1) (cap:=cap+1) (sz:=4) (i:=i) (j:=es.length+1) (m:=cap+1) rfl rfl rfl ?_ ?_ ?_ (by omega) (by omega) (by omega) ?_;exact⟨_,rfl⟩;exact⟨rfl,rfl⟩;exact rfl;rw [rv])
    apply qh;refine wh [4] (by kernel_rfl) rfl ⟨⟨_,rfl,?_⟩,trivial⟩
    (refine zv (o:=o) (ver:=ver) (off:=0) (len:=es.length+1) (cap:=cap+1) (sz:=4) (i:=i+1) (j:=es.length+1) (m:=cap+1) rfl rfl rfl ?_ ?_ ?_ (by omega) (by omega) (by omega) ?_;exact⟨_,rfl⟩;exact⟨rfl,rfl⟩;exact rfl;rw [bp])
    apply qh;refine wh [8] (by kernel_rfl) rfl ⟨⟨_,rfl,?_⟩,trivial⟩
    (refine y5 (o:=o) (ver:=ver) (off:=(i+1) * 4) (sz:=4) (bytes:=56) (m:=es.length - i) rfl rfl e2 i7 ?_ rfl ⟨⟨_,_,rfl,rfl,rfl,rfl,rfl⟩⟩ ?_ ?_;(show min _ _=_;omega);(rw [e3];omega);rw [gf])
    apply qh;refine qb2 (by kernel_rfl) ?_;exact jg ⟨rfl,rfl,rfl,trivial⟩
  ·(refine zv (o:=o) (ver:=ver) (off:=0) (len:=es.length+1) (cap:=cap+1) (sz:=4) (i:=i) (j:=es.length+1) (m:=cap+1) rfl rfl rfl ?_ ?_ ?_ (by omega) (by omega) (by omega) ?_;exact⟨_,rfl⟩;exact⟨rfl,rfl⟩;exact rfl;rw [rv])
   apply qh;refine wh [3] (by kernel_rfl) rfl ⟨⟨_,rfl,?_⟩,trivial⟩
   (apply zn;exact rfl;exact rfl;exact zg (by omega) (by omega))
   apply qh;refine wh [4] (by kernel_rfl) rfl ⟨⟨_,rfl,?_⟩,trivial⟩
   (refine zv (o:=o) (ver:=ver) (off:=0) (len:=es.length+1) (cap:=cap+1) (sz:=4) (i:=i+1) (j:=es.length+1) (m:=cap+1) rfl rfl rfl ?_ ?_ ?_ (by omega) (by omega) (by omega) ?_;exact⟨_,rfl⟩;exact⟨rfl,rfl⟩;exact rfl;rw [bp])
   apply qh;refine wh [8] (by kernel_rfl) rfl ⟨⟨_,rfl,?_⟩,trivial⟩
   (refine y5 (o:=o) (ver:=ver) (off:=(i+1) * 4) (sz:=4) (bytes:=56) (m:=es.length - i) rfl rfl e2 i7 ?_ rfl ⟨⟨_,_,rfl,rfl,rfl,rfl,rfl⟩⟩ ?_ ?_;(show min _ _=_;omega);(rw [e3];omega);rw [gf])
   apply qh;refine qb2 (by kernel_rfl) ?_;exact jg ⟨rfl,rfl,rfl,trivial⟩
 ·rintro _ ⟨t,rfl⟩
  have t6:(st.set o (AObj.cells ver 109 X1))[o]? = some (.cells ver 109 X1):=j8 e2;repeat' (first|apply qm|apply qg|apply ql)
  refine zv (o:=o) (ver:=ver) (off:=0) (len:=es.length+1) (cap:=cap+1) (sz:=4) (i:=i) (j:=es.length+1) (m:=cap+1) rfl rfl rfl ?_ ?_ ?_ (by omega) (by omega) (by omega) ?_
  ·exact⟨_,rfl⟩
  ·exact⟨rfl,rfl⟩
  ·exact rfl
  rw [rv];repeat' (first|apply ql)
  refine y5 (o:=o) (ver:=ver) (off:=0+i * 4) (sz:=4) (bytes:=56) (L:=1) (m:=1) rfl rfl t6 (.sl [entA e] none rfl) ?_ rfl ⟨⟨_,_,rfl,rfl,rfl,rfl,rfl⟩⟩ ?_ ?_
  ·show min _ _=_
   omega
  ·rw [hsl1]
   omega
  rw [dt];repeat' (first|apply qm|apply qg|apply qh|apply ql|apply qj|apply q6)
  refine qo rfl (zf rfl) ?_
  show OwnR 4 109 _ st _ (.os o ver 0 (es.length+1) (cap+1)) ((st.set o _).set o (.cells ver 109 Xn))
  rw [List.set_set,← hXn];rw [← hXn] at hsl2;exact⟨.inr ⟨o,ver,cap,_,by rw [List.length_map,nt],j8 e2,hsl2,qhp _,by rw [List.length_map,nt];omega,e6⟩,by simp,fun j hj b8=>List.getElem?_set_ne fun e=>b8 (by rw [e];rfl),fun o' d6=>.inr d6⟩
set_option maxHeartbeats 4000000 in
theorem zf7 (es:List EntV) (e:EntV) (i:Nat) (hi:i<es.length) (hl:es.length<1000000) (st:List AObj) (o ver cap:Nat) (pad:List AV) (e2:st[o]? = some (.cells ver 109 (flat (es.map entA)++pad))) (e3:(flat (es.map entA)++pad).length=(cap+1) * 4) (e5:es.length=cap+1) (e6:cap+1≤maxLen) :
  qn E 171 [.os o ver 0 es.length (cap+1),Iv i,.sl 4 [entA e] none] st fun r st'=>OwnR 4 109 ((es.take i++e::es.drop i).map entA) st (.os o ver 0 es.length (cap+1)) r st':=by
 have hI:=insB es e i cap pad hi;have d5:=lt_of_getElem? e2;have rq:(flat [entA e]).length=4:=rfl;have mv:=hI.t4;have nc:=hI.d4;have mw:=hI.take;have rv:(if cap+1=i then 0 else 0+i * 4)=0+i * 4:=if_neg (by omega);have i7:=fun S=>hI.src o ver (es.length - i) (cap+1 - i) S e3 (by omega);have nt:=hI.nl;have m3:=hI.new;have hk9:Iv ((es.length:Int)+1 - i)=Iv ((es.length+1 - i:Nat):Int):=congrArg (fun z:Int=>Iv z) (by omega);have hkk:i+(es.length+1 - i)=es.length+1:=by omega
 generalize flat ((es.drop i).map entA)=dz at i7 nc m3;refine qr Tryz.func171 rfl (Nat.le_of_ble_eq_true rfl) ?_;rw [List.append_nil];generalize flat (es.map entA)++pad=X0 at e2 e3 mw i7;repeat' (first|apply qm|apply qg|apply qh|apply ql|apply qj)
 refine zv (o:=o) (ver:=ver) (off:=0) (len:=es.length) (cap:=cap+1) (sz:=4) (i:=i) (j:=es.length) (m:=cap+1) rfl rfl rfl ?_ ?_ ?_ (by omega) (by omega) (by omega) ?_
 ·exact⟨_,rfl⟩
 ·exact⟨rfl,rfl⟩
 ·exact rfl
 repeat' (first|(apply z6 (n:=1);(iterate 4 exact rfl))|apply qm|apply qg|apply qh|apply ql|apply qj|(apply qu;(iterate 3 exact rfl))|(apply qe;exact rfl;apply wv;exact cAo)|(apply z6;(iterate 4 exact rfl))|(apply zn;exact rfl;exact rfl;exact zg (by omega) (by omega))|apply qw)
 refine qqg rfl rfl rfl ?_;refine qql [(0,.os o ver 0 es.length (cap+1)),(1,Iv i),(2,.sl 4 [entA e] none),(7,Iv 1),(8,Iv es.length),(28,Iv ((es.length:Int)+1)),(30,Iv ((cap+1:Nat):Int))] st [] ⟨rfl,rfl,rfl,rfl,rfl,rfl,rfl,trivial⟩ rfl rfl fun t=>?_;repeat' (first|apply qm|apply qg|apply qh|apply ql|(apply qu;(iterate 3 exact rfl))|(apply qe;exact rfl;apply vk;exact cAo))
 refine zv (o:=o) (ver:=ver) (off:=0) (len:=es.length) (cap:=cap+1) (sz:=4) (i:=0) (j:=i) (m:=cap+1) rfl rfl rfl ?_ ?_ ?_ (by omega) (by omega) (by omega) ?_
 ·exact rfl
 ·exact⟨_,rfl⟩
 ·exact rfl
 repeat' (first|apply ql|(apply zn;exact rfl;exact rfl;exact zg (by omega) (by omega))|(apply qbs;exact rfl;exact rfl;exact zg (by omega) (by omega)))
 refine qo2 (sz:=4) (bytes:=56) (o:=o) (ver:=ver) (n:=i) (cap:=cap+1) (k:=es.length+1 - i) (cs:=X0) rfl hk9 e2 rfl rfl ⟨⟨_,_,rfl,rfl,rfl,rfl,rfl⟩⟩ (by omega) (by omega) (by omega) (by rw [e3];omega) (by simp only [maxLen];omega) (by omega) fun cap' zs z1 z2 z3=>?_;rw [hkk,mw];refine qql [(0,.os o ver 0 es.length (cap+1)),(1,Iv i),(2,.sl 4 [entA e] none),(7,Iv 1),(40,.os st.length 0 0 (es.length+1) cap')] (st++[.cells 0 109 (flat ((es.take i).map entA)++zs)]) [] ⟨rfl,rfl,rfl,rfl,rfl,trivial⟩ rfl rfl fun t=>?_;obtain⟨cap',rfl⟩:∃ c,cap'=c+1:=⟨cap' - 1,by omega⟩;have tv:(if cap'+1=i then 0 else 0+i * 4)=0+i * 4:=if_neg (by omega);have hi4:(if cap'+1=i+1 then 0 else 0+(i+1) * 4)=(i+1) * 4:=by rw [if_neg (by omega)];omega
 have gf:zu (flat ((es.take i).map entA)++zs) (0+i * 4) (flat [entA e])=(flat ((es.take i).map entA)++flat [entA e])++zs.drop 4:=qdg _ _ _ (by rw [mv];omega)
 have dt:zu ((flat ((es.take i).map entA)++flat [entA e])++zs.drop 4) ((i+1) * 4) dz=flat ((es.take i++e::es.drop i).map entA)++(zs.drop 4).drop dz.length:=by
  rw [qdg _ _ _ (by rw [List.length_append,mv,rq];omega),m3]
 have o0:((flat ((es.take i).map entA)++flat [entA e])++zs.drop 4).length=(cap'+1) * 4:=by
  simp only [List.length_append,List.length_drop,mv,rq,z1];omega
 have bz:(flat ((es.take i++e::es.drop i).map entA)++(zs.drop 4).drop dz.length).length=(cap'+1) * 4:=by
  rw [← dt,qg9 (by rw [o0,nc];omega),o0]
 have hl0:(flat ((es.take i).map entA)++zs).length=(cap'+1) * 4:=by
  rw [List.length_append,mv,z1];omega
 repeat' (first|apply qm|apply qg|apply qh|apply ql|apply qj)
 refine zv (o:=st.length) (ver:=0) (off:=0) (len:=es.length+1) (cap:=cap'+1) (sz:=4) (i:=i) (j:=es.length+1) (m:=cap'+1) rfl rfl rfl ?_ ?_ ?_ (by omega) (by omega) (by omega) ?_
 ·exact⟨_,rfl⟩
 ·exact⟨rfl,rfl⟩
 ·exact rfl
 rw [tv];repeat' (first|apply ql)
 refine y5 (o:=st.length) (ver:=0) (off:=0+i * 4) (sz:=4) (bytes:=56) (L:=1) (m:=1) rfl rfl wd (.sl [entA e] none rfl) ?_ rfl ⟨⟨_,_,rfl,rfl,rfl,rfl,rfl⟩⟩ ?_ ?_
 ·show min _ _=_
  omega
 ·rw [hl0]
  omega
 rw [gf];generalize hX1:(flat ((es.take i).map entA)++flat [entA e])++zs.drop 4=X1 at dt o0;have hbo:(st++[AObj.cells 0 109 (flat ((es.take i).map entA)++zs)])[st.length]? = some (.cells 0 109 (flat ((es.take i).map entA)++zs)):=wd;have pt:((st++[AObj.cells 0 109 (flat ((es.take i).map entA)++zs)]).set st.length (.cells 0 109 X1))[st.length]? = some (.cells 0 109 X1):=j8 hbo
 have hS1o:((st++[AObj.cells 0 109 (flat ((es.take i).map entA)++zs)]).set st.length (.cells 0 109 X1))[o]? = some (.cells ver 109 X0):=by
  rw [List.getElem?_set_ne (by omega),List.getElem?_append_left d5];exact e2
 have hS1j:∀ j,j<st.length→((st++[AObj.cells 0 109 (flat ((es.take i).map entA)++zs)]).set st.length (.cells 0 109 X1))[j]? = st[j]?:=fun j hj=>by
  rw [List.getElem?_set_ne (by omega),List.getElem?_append_left hj]
 have hS1l:((st++[AObj.cells 0 109 (flat ((es.take i).map entA)++zs)]).set st.length (.cells 0 109 X1)).length=st.length+1:=by simp
 repeat' (first|apply qm|apply qh)
 refine qd3 [(0,.os o ver 0 es.length (cap+1)),(1,Iv i),(7,Iv 1),(9,.os st.length 0 0 (es.length+1) (cap'+1))] ((st++[AObj.cells 0 109 (flat ((es.take i).map entA)++zs)]).set st.length (.cells 0 109 X1)) [] ⟨rfl,rfl,rfl,rfl,trivial⟩ rfl rfl fun t=>?_;generalize (st++[AObj.cells 0 109 (flat ((es.take i).map entA)++zs)]).set st.length (.cells 0 109 X1)=S1 at pt hS1o hS1j hS1l;refine qsz (fun s=>StA [(9,.os st.length 0 0 (es.length+1) (cap'+1))] (S1.set st.length (.cells 0 109 (flat ((es.take i++e::es.drop i).map entA)++(zs.drop 4).drop dz.length))) [] s) ?_ ?_
 ·refine qik rfl rfl ?_
  (apply xy 0;exact rfl;kernel_rfl;kernel_rfl;kernel_rfl;exact rfl;exact yq)
  (apply xy 1;exact rfl;kernel_rfl;kernel_rfl;kernel_rfl;exact rfl;exact yq)
  (apply xy 2;exact rfl;kernel_rfl;kernel_rfl;kernel_rfl;exact rfl;exact yq)
  (apply xy 5;exact rfl;kernel_rfl;kernel_rfl;kernel_rfl;exact rfl;exact yq)
  (apply xy 6;exact rfl;kernel_rfl;kernel_rfl;kernel_rfl;exact rfl;exact yq)
  refine wh [3,7] (by kernel_rfl) rfl ⟨⟨_,rfl,?_⟩,⟨_,rfl,?_⟩,trivial⟩
  ·(apply zn;exact rfl;exact rfl;exact zg (by omega) (by omega))
   apply qh;refine wh [4,7] (by kernel_rfl) rfl ⟨⟨_,rfl,?_⟩,⟨_,rfl,?_⟩,trivial⟩
   ·(refine zv (o:=st.length) (ver:=0) (off:=0) (len:=es.length+1) (cap:=cap'+1) (sz:=4) (i:=i+1) (j:=es.length+1) (m:=cap'+1) rfl rfl rfl ?_ ?_ ?_ (by omega) (by omega) (by omega) ?_;exact⟨_,rfl⟩;exact⟨rfl,rfl⟩;exact rfl;rw [hi4])
    apply qh;refine wh [7] (by kernel_rfl) rfl ⟨⟨_,rfl,?_⟩,trivial⟩
    (refine zv (o:=o) (ver:=ver) (off:=0) (len:=es.length) (cap:=cap+1) (sz:=4) (i:=i) (j:=es.length) (m:=cap+1) rfl rfl rfl ?_ ?_ ?_ (by omega) (by omega) (by omega) ?_;exact⟨_,rfl⟩;exact⟨rfl,rfl⟩;exact rfl;rw [rv])
    apply qh;refine wh [8] (by kernel_rfl) rfl ⟨⟨_,rfl,?_⟩,trivial⟩
    (refine y5 (o:=st.length) (ver:=0) (off:=(i+1) * 4) (sz:=4) (bytes:=56) (m:=es.length - i) rfl rfl pt (i7 S1 hS1o) ?_ rfl ⟨⟨_,_,rfl,rfl,rfl,rfl,rfl⟩⟩ ?_ ?_;(show min _ _=_;omega);(rw [o0];omega);rw [dt])
    apply qh;refine qb2 (by kernel_rfl) ?_;exact jg ⟨rfl,trivial⟩
   ·(refine zv (o:=o) (ver:=ver) (off:=0) (len:=es.length) (cap:=cap+1) (sz:=4) (i:=i) (j:=es.length) (m:=cap+1) rfl rfl rfl ?_ ?_ ?_ (by omega) (by omega) (by omega) ?_;exact⟨_,rfl⟩;exact⟨rfl,rfl⟩;exact rfl;rw [rv])
    apply qh;refine wh [4] (by kernel_rfl) rfl ⟨⟨_,rfl,?_⟩,trivial⟩
    (refine zv (o:=st.length) (ver:=0) (off:=0) (len:=es.length+1) (cap:=cap'+1) (sz:=4) (i:=i+1) (j:=es.length+1) (m:=cap'+1) rfl rfl rfl ?_ ?_ ?_ (by omega) (by omega) (by omega) ?_;exact⟨_,rfl⟩;exact⟨rfl,rfl⟩;exact rfl;rw [hi4])
    apply qh;refine wh [8] (by kernel_rfl) rfl ⟨⟨_,rfl,?_⟩,trivial⟩
    (refine y5 (o:=st.length) (ver:=0) (off:=(i+1) * 4) (sz:=4) (bytes:=56) (m:=es.length - i) rfl rfl pt (i7 S1 hS1o) ?_ rfl ⟨⟨_,_,rfl,rfl,rfl,rfl,rfl⟩⟩ ?_ ?_;(show min _ _=_;omega);(rw [o0];omega);rw [dt])
    apply qh;refine qb2 (by kernel_rfl) ?_;exact jg ⟨rfl,trivial⟩
  ·(refine zv (o:=o) (ver:=ver) (off:=0) (len:=es.length) (cap:=cap+1) (sz:=4) (i:=i) (j:=es.length) (m:=cap+1) rfl rfl rfl ?_ ?_ ?_ (by omega) (by omega) (by omega) ?_;exact⟨_,rfl⟩;exact⟨rfl,rfl⟩;exact rfl;rw [rv])
   apply qh;refine wh [3] (by kernel_rfl) rfl ⟨⟨_,rfl,?_⟩,trivial⟩
   (apply zn;exact rfl;exact rfl;exact zg (by omega) (by omega))
   apply qh;refine wh [4] (by kernel_rfl) rfl ⟨⟨_,rfl,?_⟩,trivial⟩
   (refine zv (o:=st.length) (ver:=0) (off:=0) (len:=es.length+1) (cap:=cap'+1) (sz:=4) (i:=i+1) (j:=es.length+1) (m:=cap'+1) rfl rfl rfl ?_ ?_ ?_ (by omega) (by omega) (by omega) ?_;exact⟨_,rfl⟩;exact⟨rfl,rfl⟩;exact rfl;rw [hi4])
   apply qh;refine wh [8] (by kernel_rfl) rfl ⟨⟨_,rfl,?_⟩,trivial⟩
   (refine y5 (o:=st.length) (ver:=0) (off:=(i+1) * 4) (sz:=4) (bytes:=56) (m:=es.length - i) rfl rfl pt (i7 S1 hS1o) ?_ rfl ⟨⟨_,_,rfl,rfl,rfl,rfl,rfl⟩⟩ ?_ ?_;(show min _ _=_;omega);(rw [o0];omega);rw [dt])
   apply qh;refine qb2 (by kernel_rfl) ?_;exact jg ⟨rfl,trivial⟩
 ·rintro _ ⟨t,rfl⟩
  repeat' (first|apply qm|apply qg|apply qh|apply ql|apply qj|apply q6)
  refine qo rfl (zf rfl) ?_
  show OwnR 4 109 _ st _ (.os st.length 0 0 (es.length+1) (cap'+1)) (S1.set st.length (.cells 0 109 (flat ((es.take i++e::es.drop i).map entA)++(zs.drop 4).drop dz.length)))
  refine⟨.inr ⟨st.length,0,cap',_,by rw [List.length_map,nt],j8 pt,bz,qhp _,by rw [List.length_map,nt];omega,z3⟩,by rw [List.length_set,hS1l];omega,fun j hj _=>?_,fun o' d6=>?_⟩
  ·rw [List.getElem?_set_ne (by omega)]
   exact hS1j j hj
  ·simp only [zk,Option.some.injEq] at d6
   left;omega
theorem q9h (es:List EntV) (e:EntV) (i:Nat) (hi:i≤es.length) (hl:es.length<1000000) (st:List AObj) (c:AV) (hc:OwnS st 4 109 (es.map entA) c):qn E 171 [c,Iv i,.sl 4 [entA e] none] st fun r st'=>OwnR 4 109 ((es.take i++e::es.drop i).map entA) st c r st':=by
 have g9:(es.map entA).length=es.length:=by simp
 have hap:i=es.length→(es.take i++e::es.drop i).map entA=es.map entA++[entA e]:=fun h=>by subst h;simp
 rcases hc with⟨h0,hnr⟩ | ⟨o,ver,cap,pad,rfl,e2,e3,e4,e5,e6⟩
 ·have hes:es=[]:=by simpa using h0
  subst hes;obtain rfl:i=0:=by simpa using hi
  rw [hap rfl];exact zf5 e st c hnr
 ·rw [g9] at e5 ⊢
  by_cases dk:i=es.length
  ·rw [hap dk]
   subst dk;exact zf6 es e hl st o ver cap pad e2 e3 e5 e6
  ·by_cases i3:es.length+1≤cap+1
   ·exact zf8 es e i (by omega) hl st o ver cap pad e2 e3 i3 e6
   ·exact zf7 es e i (by omega) hl st o ver cap pad e2 e3 (by omega) e6
end Go.Proofs.YtapblfabkbdgcaaGreatDoor
