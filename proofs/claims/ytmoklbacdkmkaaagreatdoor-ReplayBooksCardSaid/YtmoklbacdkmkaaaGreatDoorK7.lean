/- Contracts and plain facts that the closing text leans on (part 7). No condition of their own beyond those that each states. -/
import Derived.Test.YtmoklbacdkmkaaaGreatDoorK6
import Derived.Laws.StructEq
import Derived.Lib.SliceRun
set_option maxRecDepth 100000
set_option linter.unusedVariables false
set_option linter.unusedSimpArgs false
namespace Go.Pl
open Go Go.Proofs Go.Proofs.YtmoklbacdkmkaaaGreatDoor
def GF (fs:List Fld):Prop:=fs.length≤40∧∀ f∈fs,vi f
structure PI (p:PSt):Prop where
 items:∀ x∈p.items,GF x.fields∧(x.kind=3↔x.fields≠[])
 fields:GF p.fields
 full:p.lines≠[]→p.full=false→p.fields.length<40
theorem qzt {ls:List qb} (h:(je ls).2=0):vi (je ls).1:=by
 unfold je at h ⊢
 split at h
 ·split at h
  ·simp at h
  ·rename_i h1 h2
   rw [if_pos h1,if_neg h2]
   exact⟨(qit.1 h1.2.1).2.2,Nat.le_of_not_lt h2⟩
 ·simp at h
theorem pi0:PI p0:=⟨by simp [p0],⟨by simp [p0],by simp [p0]⟩,by simp [p0]⟩
theorem PI.flush {p:PSt} (h:PI p):PI (jr p).2:=by
 unfold jr
 split
 ·exact h
 ·rename_i hl
  split
  ·exact h
  ·rename_i hu
   split
   ·exact h
   ·rename_i hf
    have hlt:=h.full hl (by simpa using hf)
    refine⟨h.items,⟨by simp;omega,fun f hm=>?_⟩,by simp⟩
    rcases List.mem_append.1 hm with hm|hm
    ·exact h.fields.2 f hm
    ·simp at hm;subst hm;exact qzt (by simpa using hu)
theorem PI.close {p:PSt} (h:PI p):PI (xy p):=by
 unfold xy
 split
 ·exact⟨h.items,⟨by simp,by simp⟩,fun h1 h2=>by simp⟩
 ·refine⟨fun x hx=>?_,⟨by simp,by simp⟩,fun h1 h2=>by simp⟩
  rcases List.mem_append.1 hx with hx|hx
  ·exact h.items x hx
  ·simp at hx
   subst hx
   refine⟨h.fields,?_⟩
   simp only
   split
   ·rename_i h0;simp [h0]
   ·rename_i h0;simp [h0]
theorem PI.end' {p:PSt} (h:PI p):PI (endP p).2:=by
 unfold endP
 split
 ·exact h
 ·exact h.flush.close
theorem PI.lines' {p:PSt} (h:PI p) (hl:p.lines≠[]) (text:qb):PI { p with lines:=p.lines++[text] }:=⟨h.items,h.fields,fun _ hf=>h.full hl hf⟩
theorem PI.begin' {p:PSt} (h:PI p) (no:Int) (text:qb):PI (ve p no text):=by
 refine⟨h.items,h.fields,fun _ hf=>?_⟩
 have:=h.fields.1
 simp only [ve,decide_eq_false_iff_not,not_or] at hf ⊢
 omega
theorem PI.ahead {p:PSt} (h:PI p) (no:Int) (text:qb) (ended:Bool) (kind:Int):PI (jn p no text ended kind).2:=by
 unfold jn
 split
 ·split
  ·exact h
  ·rename_i hl
   split
   ·exact h.lines' hl text
   ·exact (h.lines' hl text).flush
 ·split
  ·exact h.end'
  ·exact h.flush
theorem PI.take {p:PSt} (h:PI p) (no:Int) (text:qb) (ended:Bool):PI (wq p no text ended).2:=by
 have ha:=h.ahead no text ended (qw text)
 unfold wq
 split
 ·exact h
 ·split
  ·exact h
  ·split
   ·refine⟨fun x hx=>?_,ha.fields,ha.full⟩
    rcases List.mem_append.1 hx with hx|hx
    ·exact ha.items x hx
    ·simp at hx;subst hx;exact⟨⟨by simp,by simp⟩,by simp⟩
   ·split
    ·have hb:=ha.begin' no text
     exact⟨hb.items,hb.fields,hb.full⟩
    ·exact⟨ha.items,ha.fields,ha.full⟩
theorem PI.run:∀ (ls:List (qb×Bool)) (k:Nat) (p:PSt),PI p→PI (runL k ls p).2
 | [],k,p,h=>h.end'
 |(t,e)::r,k,p,h=>by
  unfold runL
  split
  ·exact h
  ·exact PI.run r (k+1) _ (h.take k t e)
theorem qn0 (text:qb):∀ x∈(jv text).2,GF x.fields∧(x.kind=3↔x.fields≠[]):=by
 unfold jv
 split
 ·simp
 ·exact (PI.run _ 0 _ pi0).items
theorem qv0 (p:PSt):(xy p).items.length≤p.items.length+1:=by
 unfold xy
 split <;> simp
theorem qhk (p:PSt):(jr p).2.items=p.items:=by
 unfold jr
 split
 ·rfl
 ·split
  ·rfl
  ·split <;> rfl
theorem qqb (p:PSt):(endP p).2.items.length≤p.items.length+1:=by
 unfold endP
 split
 ·simp
 ·have:=qv0 (jr p).2
  rw [qhk] at this
  exact this
theorem qu8 (p:PSt) (no:Int) (text:qb) (ended:Bool) (kind:Int):(jn p no text ended kind).2.items.length≤p.items.length+1:=by
 unfold jn
 split
 ·split
  ·simp
  ·split
   ·simp
   ·rw [qhk];simp
 ·split
  ·exact qqb p
  ·rw [qhk];simp
theorem qzs (p:PSt) (no:Int) (text:qb) (ended:Bool):(wq p no text ended).2.items.length≤p.items.length+2:=by
 have ha:=qu8 p no text ended (qw text)
 unfold wq
 split
 ·simp
 ·split
  ·simp
  ·split
   ·simp;omega
   ·split
    ·simp [ve];omega
    ·simp;omega
theorem qgz:∀ (ls:List (qb×Bool)) (k:Nat) (p:PSt),(runL k ls p).2.items.length≤p.items.length+2 * ls.length+1
 | [],k,p=>by have:=qqb p;simp [runL];omega
 |(t,e)::r,k,p=>by
  unfold runL
  split
  ·simp;omega
  ·have h1:=qgz r (k+1) (wq p k t e).2
   have h2:=qzs p k t e
   simp only [List.length_cons]
   omega
theorem q5m (text:qb):(jv text).2.length≤2 * text.length+1:=by
 unfold jv
 split
 ·simp
 ·have h1:=qgz (zl text) 0 p0
  have h2:=(qfy _ text (Nat.le_refl _)).2
  have h3:p0.items.length=0:=rfl
  simp only
  omega
theorem q1s (by' l:qb):(vn by' l).1.length≤l.length:=by
 unfold vn
 split
 ·have h:=(qfy _ l (Nat.le_refl _)).1
  have key:∀ (ls:List (qb×Bool)),(ls.flatMap fun x=>x.1.drop by'.length++x9 x.2).length≤lsum ls:=by
   intro ls
   induction ls with
   |nil=>simp [lsum]
   |cons x r ih=>
    simp only [lsum,List.flatMap_cons,List.length_append,List.map_cons,List.sum_cons,List.length_drop] at ih ⊢
    omega
  have:=key (zl l)
  simp only
  omega
 ·simp
end Go.Pl
namespace Go.Proofs.YtmoklbacdkmkaaaGreatDoor
open Go Go.Av Go.RowKit Go.Proofs Go.Pl
theorem qk1 (text:qb) (st:List AObj) (hl:text.length≤60000) (h:(jv text).1=none):qm E 58 [Sv text] st fun r st'=>r = .tu [ji (jv text).2,.v .nilIface]∧st'=st:=by
 have:=qo1 text st hl
 unfold qcq at this
 rw [h] at this
 exact this
theorem qzq (text:qb) (st:List AObj) (a n:Int) (hl:text.length≤60000) (h:(jv text).1=some (a,n)):qm E 58 [Sv text] st fun r st'=>r = .tu [ji (jv text).2,.ifc 101 (.pp [Iv a,.ifc 76 (Iv n)])]∧st'=st:=by
 have:=qo1 text st hl
 unfold qcq at this
 rw [h] at this
 exact this
def qej (text:qb):List Fld×Bool:=
 if (vn [32,32] text).2=false∨(jv (vn [32,32] text).1).1≠none then ([],false)
 else match recsF (jv (vn [32,32] text).1).2 with
  | []=>([],decide ((vn [32,32] text).1=[]))
  |f::_=>(f,decide ((jv (vn [32,32] text).1).2.length=1))
theorem zef {a b:List Fld} {c d:Bool} (h1:a=b) (h2:c=d):AV.tu [zz a,Bv c]=AV.tu [zz b,Bv d]:=by rw [h1,h2]
theorem q2t {its:List zm} (h:∀ x∈its,GF x.fields∧(x.kind=3↔x.fields≠[])):∀ fs∈recsF its,GF fs∧fs≠[]:=fun fs hfs=>by
 obtain⟨x,hx,rfl⟩:=List.mem_map.1 hfs
 obtain⟨hx1,hx2⟩:=List.mem_filter.1 hx
 have:=h x hx1
 exact⟨this.1,this.2.1 (by simpa using hx2)⟩
set_option maxHeartbeats 2000000 in
theorem q72 (text:qb) (st:List AObj) (hl:text.length≤60000):qm E 177 [Sv text] st fun r st'=>r = .tu [zz (qej text).1,Bv (qej text).2]∧st'=st:=by
 refine qy (kg (qap _) (qq _)) (qp Tryz.func177 rfl (Nat.le_of_ble_eq_true rfl) ?_)
 have hdl:=q1s [32,32] text
 have hpl:=q5m (vn [32,32] text).1
 have hit:=qn0 (vn [32,32] text).1
 unfold qej
 obtain⟨d,hd⟩:∃ d,d=vn [32,32] text:=⟨_,rfl⟩
 have hdc:∀ st,qm E 221 [Sv text,Sv [32,32]] st fun r st'=>r = .tu [Sv d.1,Bv d.2]∧st'=st:=fun st=>by rw [hd];exact qv2 text [32,32] st (by omega)
 rw [← hd] at hdl hpl hit ⊢
 obtain⟨b,ok⟩:=d
 simp only at hdl hpl hit hdc ⊢
 cases hp:(jv b).1 with
 |some e=>
  obtain⟨a,n⟩:=e
  rw [if_pos (.inr (by simp))]
  cases ok
  all_goals
   repeat' (first|apply ql|apply qe|apply qf|apply qi|apply qg|(apply za;exact rfl;exact rfl)|(apply z6;exact rfl)|(apply qx;(iterate 4 exact rfl))|(apply qaq;exact cRa)|(apply qcw;exact cRa)|(apply qo;exact rfl;apply qkt;exact cRa)|(apply qo;exact rfl;apply qfl;exact cRa)|(apply qc;exact rfl;apply cd_t;exact cRa)|(apply vz;exact rfl;exact rfl)|apply qt|(apply qk;exact Tryz.call221;exact hdc _)|(apply qk;exact Tryz.call58;exact qzq _ _ _ _ (by omega) hp))
   exact qn rfl (wb (wc rfl) (qds (qev 2) (qa2 (Bv false)))) ⟨rfl,_,rfl⟩
 |none=>
  cases ok
  ·rw [if_pos (.inl rfl)]
   repeat' (first|apply ql|apply qe|apply qf|apply qi|apply qg|(apply za;exact rfl;exact rfl)|(apply z6;exact rfl)|(apply qx;(iterate 4 exact rfl))|(apply qcw;exact cRa)|(apply qo;exact rfl;apply qkt;exact cRa)|(apply qc;exact rfl;apply cd_t;exact cRa)|apply qt|(apply qk;exact Tryz.call221;exact hdc _)|(apply qk;exact Tryz.call58;exact qk1 _ _ (by omega) hp))
   exact qn rfl (wb (wc rfl) (qds (qev 2) (qa2 (Bv false)))) ⟨rfl,_,rfl⟩
  ·rw [if_neg (by simp)]
   have hsc:=fun st=>q6b (jv b).2 st (by omega) (fun x hx=>by have:=(hit x hx).1.1;omega)
   have hml:((jv b).2.map z0).length=(jv b).2.length:=by simp
   cases hr:recsF (jv b).2 with
   |nil=>
    rw [hr] at hsc
    repeat' (first|apply ql|apply qe|apply qf|apply qi|apply qg|(apply za;exact rfl;exact rfl)|(apply qr;(iterate 3 exact rfl))|(apply jo;(iterate 3 exact rfl))|(apply z6;exact rfl)|(apply qx;(iterate 4 exact rfl))|(apply qaq;exact cRa)|(apply qo;exact rfl;apply qfl;exact cRa)|(apply qc;exact rfl;apply cd_t;exact cRa)|(apply qc;exact rfl;apply cd_f;exact cRa)|(apply zr;(iterate 4 exact rfl))|(apply vb;exact rfl;exact rfl)|apply qs|apply qt|(apply qk;exact Tryz.call221;exact hdc _)|(apply qk;exact Tryz.call58;exact qk1 _ _ (by omega) hp)|(apply qk;exact Tryz.call222;exact hsc _))
    exact qn rfl (wb (wc rfl) (qds (qev 2) (qa2 (Bv (decide (b=[])))))) ⟨rfl,_,rfl⟩
   |cons f r=>
    rw [hr] at hsc
    have hrl:((f::r).map zz).length=r.length+1:=by simp
    repeat' (first|apply ql|apply qe|apply qf|apply qi|apply qg|(apply za;exact rfl;exact rfl)|(apply qr;(iterate 3 exact rfl))|(apply z6;exact rfl)|(apply qx;(iterate 4 exact rfl))|(apply qaq;exact cRa)|(apply qo;exact rfl;apply qfl;exact cRa)|(apply qc;exact rfl;apply vo;exact cAo)|(apply qc;exact rfl;apply cd_f;exact cRa)|(apply zr;(iterate 4 exact rfl))|(apply vb;exact rfl;exact rfl)|(apply zo;(iterate 3 exact rfl))|apply qs|apply qt|(apply qk;exact Tryz.call221;exact hdc _)|(apply qk;exact Tryz.call58;exact qk1 _ _ (by omega) hp)|(apply qk;exact Tryz.call222;exact hsc _)|(apply zw (n:=0);(iterate 6 exact rfl)))
    refine qn rfl (wc rfl) ⟨zef rfl (decide_eq_decide.2 ?_),_,rfl⟩
    rw [hml]
    omega
def yq (text:qb):List LnV→Nat→List qb
 | [],frm=>[text.drop frm]
 |l::r,frm=>if frm<l.at'∧¬ [32,32] <+: l.text then (text.take l.at').drop frm::yq text r l.at' else yq text r frm
def qf1 (text:qb):List qb:=yq text (lns text) 0
theorem q4t (l m:qb) (st:List AObj) (h:m <+: l):qm E 164 [Sv l,Sv m] st fun r st'=>r=Bv true∧st'=st:=by
 have:=qdf l m st
 rw [(w6 l m).2 h] at this
 exact this
theorem q4s (l m:qb) (st:List AObj) (h:¬ m <+: l):qm E 164 [Sv l,Sv m] st fun r st'=>r=Bv false∧st'=st:=by
 have:=qdf l m st
 have hf:Lib.hasPrefix l m=false:=by
  cases hb:Lib.hasPrefix l m with
  |false=>rfl
  |true=>exact absurd ((w6 l m).1 hb) h
 rw [hf] at this
 exact this
theorem zbu (text:qb) (st:List AObj) (hl:text.length<1000000):qm E 175 [Sv text] st fun r st'=>r=Ss (qf1 text)∧st'=st:=by
 refine ze [.s text] (qjq _) Tryz.func175 rfl rfl (fun _=>rfl) rfl fun S0=>?_
 apply qd []
 repeat' (first|apply And.intro|(intro h;try exact cDd)|exact⟨Tryz.call100⟩|(refine Exists.intro _ ⟨qk2 _,?_⟩)|exact cSd|apply qa []|refine exr ?_|refine qh ?_)
 refine qe9 (X:=List qb×Nat) text 2 3 [0,1,2] (fun (out,frm)=>⟨[(1,.a (.pp [Sv text])),(3,.bx 0 0),(4,.bx 1 0),(7,.fn (.func 163) [] [.bx 2 0])],
   [(0,some (.cells 85 [.tp 3])),(1,some (.cells 3 [.i frm])),(2,some (.cells 9 [.s text])),(3,some (.tip 1 9 (out.map fun x=>Sv x)))],4⟩) _
  (fun k rest (out,frm)=>∃ a,a+rest.length=text.length∧frm≤a∧out.length≤k∧k≤a∧out++yq text (vv k a rest) frm=qf1 text) (fun _ _=>False) ([],0) ⟨0,by simp,by omega,by simp,by omega,rfl⟩ ?_ id (by omega) (fun _=>rfl) rfl (fun _=>rfl) (fun _=>rfl) rfl ?_ ?_ (fun _ _ h=>h.elim)
 ·skip
  repeat' (first|apply And.intro|(intro h;try exact cDd)|exact cSd|apply qa []|refine exr ?_|refine qh ?_)
 ·rintro k rest ⟨out,frm⟩ ⟨a,ha,hfa,hok,hka,hrun⟩ hne hle
  have hcons:=qbv (k:=k) (a:=a) hne
  have hul:=j8 10 rest
  have hr0:0<rest.length:=List.length_pos_iff.2 hne
  have hpl:=j9 10 rest
  have hpa:a+(upto 10 rest).length+1+(past 10 rest).length=text.length∨past 10 rest=[]:=by
   by_cases h10:10∈rest
   ·have:=qc8 h10
    exact .inl (by omega)
   ·right
    unfold past
    rw [qb0 h10]
    simp
  have hpast:∀ f,yq text (vv (k+1) (a+(upto 10 rest).length+1) (past 10 rest)) f=yq text (vv (k+1) (text.length - (past 10 rest).length) (past 10 rest)) f:=fun f=>by
   rcases hpa with h|h
   ·have:a+(upto 10 rest).length+1=text.length - (past 10 rest).length:=by omega
    rw [this]
   ·rw [h,qac,qac]
  have e:(text.length:Int) - rest.length=(a:Int):=by omega
  rw [hcons,yq] at hrun
  unfold qkg
  rw [e]
  by_cases hp:[32,32] <+: upto 10 rest
  ·have hhp:=fun st=>q4t (upto 10 rest) [32,32] st hp
   rw [if_neg (fun h=>h.2 hp),hpast] at hrun
   refine RA.mk fun S F ρ rd=>?_
   apply qd []
   repeat' (first|apply And.intro|(intro h;try exact cDd)|(refine RB.mk fun S rd=>?_;apply qd [])|exact⟨Tryz.call164⟩|refine cpe hhp ?_|(refine Exists.intro (out,frm) ⟨⟨text.length - (past 10 rest).length,by omega,by omega,by omega,by omega,hrun⟩,?_⟩)|exact cSd|apply qa []|refine exr ?_|refine qh ?_)
  ·have hhp:=fun st=>q4s (upto 10 rest) [32,32] st hp
   by_cases hfr:frm<a
   ·rw [if_pos ⟨hfr,hp⟩,hpast] at hrun
    refine RA.mk fun S F ρ rd=>?_
    apply qd []
    repeat' (first|apply And.intro|(intro h;try exact cDd)|(refine RB.mk fun S rd=>?_;apply qd [25])|exact⟨Tryz.call164⟩|refine cpe hhp ?_|(refine Exists.intro (out++[(text.take a).drop frm],a) ⟨⟨text.length - (past 10 rest).length,by omega,by omega,by simp;omega,by omega,by rw [← hrun];simp⟩,?_⟩)|exact cSd|apply qa [25]|refine exr ?_|refine qh ?_)
    all_goals first|(simp [SV.evs];omega)|(simp [SV.evs,SV.ev];done)
   ·rw [if_neg (fun h=>hfr h.1),hpast] at hrun
    refine RA.mk fun S F ρ rd=>?_
    apply qd []
    repeat' (first|apply And.intro|(intro h;try exact cDd)|(refine RB.mk fun S rd=>?_;apply qd [])|exact⟨Tryz.call164⟩|refine cpe hhp ?_|(refine Exists.intro (out,frm) ⟨⟨text.length - (past 10 rest).length,by omega,by omega,by omega,by omega,hrun⟩,?_⟩)|exact cSd|apply qa []|refine exr ?_|refine qh ?_)
 ·rintro k ⟨out,frm⟩ ⟨a,ha,hfa,hok,hka,hrun⟩
  rw [qac,yq] at hrun
  repeat' (first|apply And.intro|(intro h;try exact cDd)|exact cSd|apply qa []|refine exr ?_|refine qh ?_)
  rw [← hrun]
  simp
def decP:List qb→List qu→Option (List qu)
 | [],acc=>some acc
 |p::r,acc=>match begE (upto 10 p) with
  |none=>none
  |some (k,n)=>if (qej (past 10 p)).2=true∧acc.length≠40 then decP r (acc++[⟨k,n,(qej (past 10 p)).1⟩]) else none
def decF (text:qb):Option (List qu):=if 50000<text.length then none else match decP (qf1 text) [] with
 |none=>none
 |some b=>if eErr b = .no∧encF b=text then some b else none
def decA:Option (List qu)→AV
 |none=>.tu [zj [],.ifc 76 (Iv 2)]
 |some b=>.tu [zj b,.v .nilIface]
theorem q4c (x:Option (List qu)):Pure (decA x):=by
 rcases x with _|b
 ·exact kg (qfg _) (qbx (qq _))
 ·exact kg (qfg _) (qq _)
theorem qiv (text:qb):∀ (ls:List LnV) (f:Nat),(∀ p∈yq text ls f,p.length≤text.length)∧(yq text ls f).length≤ls.length+1
 | [],f=>by simp [yq]
 |l::r,f=>by
  unfold yq
  split
  ·obtain⟨h1,h2⟩:=qiv text r l.at'
   refine⟨fun p hp=>?_,by simp;omega⟩
   rcases List.mem_cons.1 hp with rfl|hp
   ·simp;omega
   ·exact h1 p hp
  ·obtain⟨h1,h2⟩:=qiv text r f
   exact⟨h1,by simp;omega⟩
theorem qr2 {l:qb} {k n:Int} (h:begE l=some (k,n)) : -9223372036854775808≤n∧n≤9223372036854775807:=by
 have key:∀ {j:Int} {n:Int},tryB j l=some n→-9223372036854775808≤n∧n≤9223372036854775807:=fun {j n} h=>by
  unfold tryB at h
  split at h
  ·split at h
   ·rename_i v hv
    cases h
    exact Lib.atoiAll_bounds hv
   ·simp at h
  ·simp at h
 unfold begE at h
 split at h
 ·rename_i v hv;simp at h;rw [← h.2];exact key hv
 ·split at h
  ·rename_i v hv;simp at h;rw [← h.2];exact key hv
  ·split at h
   ·rename_i v hv;simp at h;rw [← h.2];exact key hv
   ·simp at h
theorem qnp (text:qb):GF (qej text).1:=by
 unfold qej
 split
 ·exact⟨by simp,by simp⟩
 ·split
  ·exact⟨by simp,by simp⟩
  ·rename_i f r hr
   exact (q2t (qn0 _) f (by rw [hr];simp)).1
theorem q4i {k n:Int} {fs:List Fld} (h1 : -9223372036854775808≤n) (h2:n≤9223372036854775807) (hg:GF fs):EdB ⟨k,n,fs⟩:=
 ⟨fun f hf=>by have:=(hg.2 f hf).1.2.1;omega,by have:=hg.1;simp only;omega,h1,h2⟩
set_option maxHeartbeats 4000000 in
theorem q7n (text:qb) (st:List AObj) (hl:text.length<1000000):qm E 105 [Sv text] st fun r st'=>r=decA (decF text)∧st'=st:=by
 refine ze [.s text] (q4c _) Tryz.func105 rfl rfl (fun _=>rfl) rfl fun S0=>?_
 by_cases hbig:50000<text.length
 ·have hd:decF text=none:=if_pos hbig
  rw [hd]
  apply qd []
  repeat' (first|apply And.intro|(intro h;try exact cDd)|exact cSd|apply qa []|refine exr ?_|refine qh ?_)
 have hdf:decF text=match decP (qf1 text) [] with
  |none=>none
  |some b=>if eErr b = .no∧encF b=text then some b else none:=if_neg hbig
 have hpl:=(qiv text (lns text) 0).1
 have hpn:=(qiv text (lns text) 0).2
 have hln:=qfz _ text 0 0 (Nat.le_refl _)
 have hpe:yq text (lns text) 0=qf1 text:=rfl
 have hle:(lns text).length≤text.length:=hln
 rw [hpe] at hpl hpn
 have hml:((qf1 text).map fun x=>Sv x).length=(qf1 text).length:=by simp
 have hpc:=fun st=>zbu text st hl
 generalize qf1 text=L at hdf hpl hpn hml hpc
 apply qd []
 repeat' (first|apply And.intro|(intro h;try exact cDd)|exact⟨Tryz.call175⟩|refine cpe hpc ?_|exact cSd|apply qa []|refine exr ?_|refine qh ?_)
 refine zq (X:=Nat×List qu) (fun (k,acc)=>⟨[(0,.s text),(4,.tp 0),(21,.a (Ss L)),(22,.i L.length),(23,.i k)],[(0,some (.tip 3 97 (acc.map j6)))],1⟩)
  (fun (k,acc)=>k≤L.length∧acc.length≤k∧(∀ x∈acc,EdB x)∧decP (L.drop k) acc=decP L []) (fun x=>L.length - x.1) (0,[]) ⟨by omega,by simp,by simp,rfl⟩ ?_ ?_
 ·skip
  repeat' (first|apply And.intro|(intro h;try exact cDd)|exact cSd|apply qa []|refine exr ?_|refine qh ?_)
  all_goals first|(simp;done)
 ·rintro⟨j,acc⟩ ⟨hj,hal,hB,hrun⟩
  have hma:(acc.map j6).length=acc.length:=by simp
  by_cases hc:j<L.length
  ·obtain⟨p,hx⟩:∃ p,L[j]? = some p:=⟨_,List.getElem?_eq_getElem hc⟩
   have hg:(L.map fun x=>Sv x)[j]? = some (Sv p):=by simp [hx]
   have hd:L.drop j=p::L.drop (j+1):=by
    obtain⟨hlt,e⟩:=List.getElem?_eq_some_iff.1 hx
    rw [List.drop_eq_getElem_cons hlt,e]
   have hpp:=hpl p (List.mem_of_getElem? hx)
   have hul:=j8 10 p
   have hpal:=j9 10 p
   have hcu:=fun st=>qhg p 10 st (by omega)
   have hbc:=fun st=>zan (upto 10 p) st (by omega)
   have hgf:=qnp (past 10 p)
   have hfc:=fun st=>q72 (past 10 p) st (by omega)
   rw [hd,decP] at hrun
   cases hbe:begE (upto 10 p) with
   |none=>
    rw [hbe] at hrun hbc
    simp only at hrun
    rw [← hrun] at hdf
    simp only at hdf
    rw [hdf]
    apply qd []
    repeat' (first|apply And.intro|(intro h;try exact cDd)|(refine Exists.intro (j) ⟨by omega,_,hg,?_⟩)|exact⟨Tryz.call96⟩|refine cpe hcu ?_|exact⟨Tryz.call176⟩|refine cpe hbc ?_|exact⟨Tryz.call177⟩|refine cpe hfc ?_|exact cSd|apply qa []|refine exr ?_|refine qh ?_)
   |some kn=>
    obtain⟨kd,n⟩:=kn
    have hid:=qr2 hbe
    rw [hbe] at hrun hbc
    simp only at hrun
    obtain⟨fs,hfs⟩:∃ x,x=(qej (past 10 p)).1:=⟨_,rfl⟩
    rw [← hfs] at hrun hfc hgf
    cases hok:(qej (past 10 p)).2 with
    |false=>
     rw [hok] at hrun hfc
     rw [if_neg (by simp)] at hrun
     rw [← hrun] at hdf
     simp only at hdf
     rw [hdf]
     apply qd []
     repeat' (first|apply And.intro|(intro h;try exact cDd)|(refine Exists.intro (j) ⟨by omega,_,hg,?_⟩)|exact⟨Tryz.call96⟩|refine cpe hcu ?_|exact⟨Tryz.call176⟩|refine cpe hbc ?_|exact⟨Tryz.call177⟩|refine cpe hfc ?_|exact cSd|apply qa []|refine exr ?_|refine qh ?_)
    |true=>
     rw [hok] at hrun hfc
     by_cases h40:acc.length=40
     ·rw [if_neg (by simp [h40])] at hrun
      rw [← hrun] at hdf
      simp only at hdf
      rw [hdf]
      apply qd []
      repeat' (first|apply And.intro|(intro h;try exact cDd)|(refine Exists.intro (j) ⟨by omega,_,hg,?_⟩)|exact⟨Tryz.call96⟩|refine cpe hcu ?_|exact⟨Tryz.call176⟩|refine cpe hbc ?_|exact⟨Tryz.call177⟩|refine cpe hfc ?_|exact cSd|apply qa []|refine exr ?_|refine qh ?_)
     ·rw [if_pos ⟨rfl,h40⟩] at hrun
      have hB2:∀ x∈acc++[⟨kd,n,fs⟩],EdB x:=fun x hx=>by
       rcases List.mem_append.1 hx with hx|hx
       ·exact hB x hx
       ·obtain rfl:=List.mem_singleton.1 hx
        exact q4i hid.1 hid.2 hgf
      apply qd []
      repeat' (first|apply And.intro|(intro h;try exact cDd)|(refine Exists.intro (j) ⟨by omega,_,hg,?_⟩)|exact⟨Tryz.call96⟩|refine cpe hcu ?_|exact⟨Tryz.call176⟩|refine cpe hbc ?_|exact⟨Tryz.call177⟩|refine cpe hfc ?_|(refine Exists.intro (j+1,acc++[⟨kd,n,fs⟩]) ⟨⟨by omega,by simp;omega,hB2,hrun⟩,by simp only;omega,?_⟩)|exact cSd|apply qa []|refine exr ?_|refine qh ?_)
      all_goals (simp;done)
  ·have hd:L.drop j=[]:=List.drop_eq_nil_of_le (by omega)
   rw [hd,decP] at hrun
   rw [← hrun] at hdf
   simp only at hdf
   cases he:eErr acc with
   |no=>
    have hen:=fun st=>qtb acc st hB he
    by_cases ht:encF acc=text
    ·rw [if_pos ⟨he,ht⟩] at hdf
     rw [hdf]
     rw [ht] at hen
     apply qd []
     repeat' (first|apply And.intro|(intro h;try exact cDd)|exact⟨Tryz.call75⟩|refine cpe hen ?_|exact cSd|apply qa []|refine exr ?_|refine qh ?_)
    ·rw [if_neg fun h=>ht h.2] at hdf
     rw [hdf]
     apply qd []
     repeat' (first|apply And.intro|(intro h;try exact cDd)|exact⟨Tryz.call75⟩|refine cpe hen ?_|exact cSd|apply qa []|refine exr ?_|refine qh ?_)
     all_goals exact absurd ht (by assumption)
   |num n=>
    have hen:=fun st=>qim acc st (.num n) hB (by omega) he fun h=>by
     have:=(qdy acc).1 (by rw [he];exact h)
     rw [he] at this
     simp at this
    rw [if_neg fun h=>by rw [he] at h;simp at h] at hdf
    rw [hdf]
    apply qd []
    repeat' (first|apply And.intro|(intro h;try exact cDd)|exact⟨Tryz.call75⟩|refine cpe hen ?_|exact cSd|apply qa []|refine exr ?_|refine qh ?_)
   |at' a n=>
    have hen:=fun st=>qim acc st (.at' a n) hB (by omega) he fun h=>by
     have:=(qdy acc).1 (by rw [he];exact h)
     rw [he] at this
     simp at this
    rw [if_neg fun h=>by rw [he] at h;simp at h] at hdf
    rw [hdf]
    apply qd []
    repeat' (first|apply And.intro|(intro h;try exact cDd)|exact⟨Tryz.call75⟩|refine cpe hen ?_|exact cSd|apply qa []|refine exr ?_|refine qh ?_)
theorem za6 : (Tryz.prog.fieldsOf 156).toList = [⟨ "Key", 9, 0, false, "", "", 0⟩, ⟨ "Value", 9, 1, false, "", "", 16⟩] := by kernel_rfl
theorem za5 (a b c d:ByteArray) (w:World):(Op.equalIn 10000 156 (.agg #[.string a,.string b]) (.agg #[.string c,.string d])).run Tryz.prog w = .ok (a.toList == c.toList && b.toList == d.toList) w:=by
 rw [run_equalIn_agg w 9999 156 _ _ (by kernel_rfl) (by kernel_rfl),za6]
 have p1:∀ (x y:ByteArray) w,(part 9 #[.string x,.string y] 0).run Tryz.prog w = .ok (.string x) w:=fun x y w=>by kernel_rfl
 have p2:∀ (x y:ByteArray) w,(part 9 #[.string x,.string y] 1).run Tryz.prog w = .ok (.string y) w:=fun x y w=>by kernel_rfl
 have hs:∀ (x y:ByteArray) w,(Op.equalIn 9999 9 (.string x) (.string y)).run Tryz.prog w = .ok (x.toList == y.toList) w:=fun x y w=>run_equalIn_string w 9998 9 x y (by kernel_rfl)
 simp only [Op.eqFields,Sem.run_bind,Sem.run_ite,p1,p2,hs,Result.andThen_ok,Sem.run_pure]
 cases hac:(a.toList == c.toList) <;> cases hbd:(b.toList == d.toList) <;> simp
theorem q0p {G:Gh} {f:Fld} {v:Value} (h:Rel G (fldA f) v):v = .agg #[.string ⟨f.1.toArray⟩,.string ⟨f.2.toArray⟩]:=by
 cases h with
 |ag _ vs hl h=>
  match vs,hl with
  | ⟨[x,y]⟩,_=>
   have h1:=h 0 _ x rfl rfl
   have h2:=h 1 _ y rfl rfl
   cases h1
   cases h2
   rfl
theorem zbq (f g:Fld) (w:World):(binOp .neq 156 (.agg #[.string ⟨f.1.toArray⟩,.string ⟨f.2.toArray⟩]) (.agg #[.string ⟨g.1.toArray⟩,.string ⟨g.2.toArray⟩])).run Tryz.prog w = .ok (.bool (decide (f≠g))) w:=by
 rw [run_neq_struct,za5]
 simp only [Result.andThen_ok,ByteArray.toList_eq]
 obtain⟨a,b⟩:=f
 obtain⟨c,d⟩:=g
 congr 2
 by_cases h1:a=c <;> by_cases h2:b=d <;> simp [h1,h2]
section
variable {N : Nat} {ops : Array Oper} {K : AS → Prop} {s : AS} {rest : List Oper} {d : Option Tmp} {T : TypeId} {p : String} {af : Array Edge}
theorem q3p {x y:Operand} {t':TypeId} {f g:Fld} {b:Bool} (hx:qj N s x=fldA f) (hy:qj N s y=fldA g) (hb:decide (f≠g)=b)
  (h:AQ E N ops rest K (s.put d (Bv b))):AQ E N ops (⟨d,.binOp .neq 156 x y t',T,p,af,none⟩::rest) K s:=by
 subst hb
 refine qcu rfl nofun fun B0 w0 G a w _ hI=>⟨.bool (decide (f≠g)),_,fun w' _=>?_,.v _,h⟩
 have h1:=q0p (hI.eval_of hx)
 have h2:=q0p (hI.eval_of hy)
 generalize a.eval = ρ at h1 h2
 have hg:(eqGuard .neq 156 x y (.agg #[.string ⟨f.1.toArray⟩,.string ⟨f.2.toArray⟩]) (.agg #[.string ⟨g.1.toArray⟩,.string ⟨g.2.toArray⟩])).run Tryz.prog w' = .ok () w':=run_eqGuard_agg w' _ _ _ _ _ _ (by kernel_rfl)
 simp [execOp,h1,h2,hg,zbq]
end
theorem qcr {α : Type} [DecidableEq α] {a b:List α} {k:Nat} {d : α} (hl:a.length=b.length) (hk:k<a.length) (h:a.take k=b.take k) (h2:a.getD k d=b.getD k d):a.take (k+1)=b.take (k+1):=by
 rw [List.take_succ_eq_append_getElem hk,List.take_succ_eq_append_getElem (by omega),h]
 congr 2
 simpa [List.getD,hk,show k<b.length by omega] using h2
theorem qtc (a b:List Fld) (st:List AObj) (ha:a.length<9223372036854775808):qm E 78 [zz a,zz b] st fun r st'=>r=Bv (decide (a=b))∧st'=st:=by
 refine qy (qq _) (qp Tryz.func78 rfl (Nat.le_of_ble_eq_true rfl) ?_)
 have hma:(a.map fldA).length=a.length:=by simp
 have hmb:(b.map fldA).length=b.length:=by simp
 by_cases hl:a.length=b.length
 ·skip
  repeat' (first|apply ql|apply qv|apply qe|apply qf|apply qi|apply qg|(apply qr;(iterate 3 exact rfl))|(apply qc;exact rfl;apply vo;exact cAo)|(apply zr;(iterate 4 exact rfl))|apply qs)
  refine kh (fun (k:Nat) s=>k≤a.length∧a.take k=b.take k∧StE [(0,zz a),(1,zz b),(12,Iv a.length),(13,Iv k)] st [] s) (fun k=>a.length - k) 0 ⟨by omega,by simp,qbg ⟨rfl,rfl,congrArg (fun n:Nat=>Iv (n:Int)) hma,rfl,trivial⟩ rfl⟩ ?_
  rintro k _ ⟨hk,ht,t,ext,rfl⟩
  by_cases hc:k<a.length
  ·by_cases he:a.getD k ([],[])=b.getD k ([],[])
   ·have hn:decide (a.getD k ([],[])≠b.getD k ([],[]))=false:=decide_eq_false fun h=>h he
    repeat' (first|apply ql|apply qv|apply qe|apply qf|apply qi|apply qg|(apply qr;(iterate 3 exact rfl))|(apply qc;exact rfl;apply km;exact cAo)|(apply qc;exact rfl;apply cd_f;exact cRa)|(apply zk;exact rfl;exact rfl;exact zb (by omega) (by omega))|(apply qhe;exact rfl;kernel_rfl)|apply qfq|(apply qgi;(iterate 3 exact rfl))|apply qdw|apply qs|(apply qci (n:=k);(iterate 5 exact rfl);exact qj9 (xs:=a) (by omega))|(apply qci (n:=k);(iterate 5 exact rfl);exact qj9 (xs:=b) (by omega))|(apply q3p;exact rfl;exact rfl;exact hn))
    exact⟨k+1,⟨by omega,qcr hl hc ht he,xf ⟨rfl,rfl,rfl,rfl,trivial⟩ rfl⟩,by omega⟩
   ·have hn:decide (a.getD k ([],[])≠b.getD k ([],[]))=true:=decide_eq_true he
    have hab:¬ a=b:=fun e=>he (by rw [e])
    repeat' (first|apply ql|apply qv|apply qe|apply qf|apply qi|apply qg|(apply qr;(iterate 3 exact rfl))|(apply qc;exact rfl;apply km;exact cAo)|(apply qc;exact rfl;apply cd_t;exact cRa)|(apply qhe;exact rfl;kernel_rfl)|apply qfq|(apply qgi;(iterate 3 exact rfl))|apply qdw|apply qs|apply qt|(apply qci (n:=k);(iterate 5 exact rfl);exact qj9 (xs:=a) (by omega))|(apply qci (n:=k);(iterate 5 exact rfl);exact qj9 (xs:=b) (by omega))|(apply q3p;exact rfl;exact rfl;exact hn))
    exact qn rfl (q9 rfl) ⟨congrArg Bv (decide_eq_false hab).symm,wx _ _ _ _⟩
  ·have hab:a=b:=by
    have e:k=a.length:=by omega
    rw [e,List.take_length,List.take_of_length_le (by omega)] at ht
    exact ht
   repeat' (first|apply ql|apply qe|apply qf|apply qg|(apply qr;(iterate 3 exact rfl))|(apply qc;exact rfl;apply vo;exact cAo)|apply jh|apply qt)
   exact qn rfl (q9 rfl) ⟨congrArg Bv (decide_eq_true hab).symm,wx _ _ _ _⟩
 ·have hab:¬ a=b:=fun e=>hl (by rw [e])
  repeat' (first|apply ql|apply qe|apply qf|apply qi|apply qg|(apply qr;(iterate 3 exact rfl))|(apply qc;exact rfl;apply km;exact cAo)|(apply zr;(iterate 4 exact rfl))|apply qt)
  exact qn rfl (q9 rfl) ⟨congrArg Bv (decide_eq_false hab).symm,_,rfl⟩
end Go.Proofs.YtmoklbacdkmkaaaGreatDoor
namespace Go.Pl
open Go Go.Proofs Go.Proofs.YtmoklbacdkmkaaaGreatDoor
theorem qbz (s:qb) (r:List qb):zi (s::r)=s++10::zi r:=by simp [zi]
theorem qhu:∀ (ls:List qb),(∀ s∈ls,10∉s)→zl (zi ls)=ls.map fun s=>(s,true)
 | [],_=>by simp [zi,vq]
 |s::r,h=>by
  have hs:=h s (by simp)
  rw [qbz,v7 (by simp),yp _ hs,qa7 _ hs,qhu r fun x hx=>h x (by simp [hx])]
  simp
theorem qy8 {f:Fld} (h:vi f):∀ s∈kr f,10∉s:=fun s hs=>by
 unfold kr at hs
 rcases List.mem_cons.1 hs with rfl|hs
 ·have h1:=qkq f.2 _ (q76 f.2)
  have h2:=h.1.2.2.2.2.2
  unfold kv
  split <;> simp_all
 ·obtain⟨x,hx,rfl⟩:=List.mem_map.1 hs
  have h1:=qkq f.2 x (List.mem_of_mem_tail hx)
  have:=q29 h1
  simp [this]
theorem q15 (fs:List Fld):zx fs=zi (fs.flatMap kr):=by
 induction fs with
 |nil=>rfl
 |cons f r ih=>
  rw [List.flatMap_cons,xg,← ih]
  simp [zx]
theorem qte {fs:List Fld} (h:∀ f∈fs,vi f):∀ s∈fs.flatMap kr,10∉s:=fun s hs=>by
 obtain⟨f,hf,hs⟩:=List.mem_flatMap.1 hs
 exact qy8 (h f hf) s hs
theorem qy3 {ls:List qb} (h:∀ s∈ls,10∉s):qcx [32,32] (zi ls)=zi (ls.map fun s=>[32,32]++s):=by
 unfold qcx indF
 rw [qhu ls h]
 simp only [zi,List.flatMap_map,x9,if_pos]
theorem q79 {ls:List qb} (h:∀ s∈ls,10∉s):∀ s∈ls.map (fun s=>[32,32]++s),10∉s:=fun s hs=>by
 obtain⟨x,hx,rfl⟩:=List.mem_map.1 hs
 have:=h x hx
 simp [this]
def qms (x:qu):List qb:=(x.fields.flatMap kr).map fun s=>[32,32]++s
theorem qnw (v:Int):∀ c∈Lib.itoa v,c≠10∧c≠32:=fun c hc=>by
 by_cases hv:v<0
 ·rw [qhq hv] at hc
  rcases List.mem_cons.1 hc with rfl|hc
  ·decide
  ·have:=wt _ _ (Nat.le_refl _) c hc
   constructor <;> rintro rfl <;> simp at this
 ·rw [qhr (by omega)] at hc
  have:=wt _ _ (Nat.le_refl _) c hc
  constructor <;> rintro rfl <;> simp at this
theorem q40 (x:qu):10∉qce x:=by
 unfold qce
 split
 ·rename_i hk
  have h1:=qnw x.id
  intro hc
  rcases List.mem_append.1 hc with hc|hc
  ·have:x.kind=1∨x.kind=2∨x.kind=3:=by omega
   rcases this with h|h|h <;> rw [h] at hc <;> revert hc <;> decide
  ·exact (h1 10 hc).1 rfl
 ·simp
theorem qyy {x:qu} (hg:∀ f∈x.fields,vi f):qfs x=zi (qce x::qms x):=by
 unfold qfs qms
 rw [qbz,q15,qy3 (qte hg)]
 simp
theorem q35 {x:qu} (hg:∀ f∈x.fields,vi f):∀ s∈qms x,10∉s:=q79 (qte hg)
theorem qgw (text:qb):∀ (m:List qb) (k a f:Nat) (R:qb),(∀ s∈m,10∉s∧[32,32] <+: s)→∃ k',yq text (vv k a (zi m++R)) f=yq text (vv k' (a+(zi m).length) R) f
 | [],k,a,f,R,_=>⟨k,by simp [zi]⟩
 |s::m,k,a,f,R,h=>by
  obtain⟨h10,hp⟩:=h s (by simp)
  have e:zi (s::m)++R=s++10::(zi m++R):=by rw [qbz];simp
  obtain⟨k',ih⟩:=qgw text m (k+1) (a+s.length+1) f R fun x hx=>h x (by simp [hx])
  refine⟨k',?_⟩
  rw [e,qbv (by simp),yp _ h10,qa7 _ h10,yq,if_neg (fun h=>h.2 hp),ih,qbz]
  congr 2
  simp
  omega
theorem q34 {x:qu} (hg:∀ f∈x.fields,vi f):∀ s∈qms x,10∉s∧[32,32] <+: s:=fun s hs=>⟨q35 hg s hs,by
 obtain⟨y,_,rfl⟩:=List.mem_map.1 hs
 exact List.prefix_append _ _⟩
structure EncG (x:qu):Prop where
 kind:x.kind=1∨x.kind=2∨x.kind=3
 len:x.fields.length≤40
 good:∀ f∈x.fields,vi f
 id1 : -9223372036854775808≤x.id
 id2:x.id≤9223372036854775807
theorem za3 {x:qu} (h:gErr x = .no) (hB:EdB x):EncG x:=by
 obtain⟨h1,h2⟩:=qjl h
 refine⟨?_,h1,h2,hB.id1,hB.id2⟩
 unfold gErr at h
 split at h
 ·exact .inr (.inl (by assumption))
 ·split at h
  ·rename_i hk;omega
  ·simp at h
theorem q7m {text:qb} {b:List qu} (h:decF text=some b):eErr b = .no∧encF b=text∧text.length≤50000:=by
 unfold decF at h
 split at h
 ·simp at h
 ·split at h
  ·simp at h
  ·split at h
   ·rename_i hc
    cases h
    exact⟨hc.1,hc.2,by omega⟩
   ·simp at h
def SpL (L:List qb):Prop:=L≠[]∧∀ s∈L,10∉s∧[32] <+: s
def encL (b:List qu):List qb:=b.flatMap fun x=>qce x::qms x
theorem q4k {b:List qu} (hg:∀ x∈b,EncG x):encF b=zi (encL b):=by
 induction b with
 |nil=>rfl
 |cons x r ih=>
  have e:encL (x::r)=(qce x::qms x)++encL r:=by simp [encL]
  have e2:encF (x::r)=qfs x++encF r:=by simp [encF]
  rw [e,xg,e2,qyy (hg x (by simp)).good,ih fun y hy=>hg y (by simp [hy])]
theorem zbi {x:qu} (hk:x.kind=1∨x.kind=2∨x.kind=3):[32] <+: qce x:=by
 unfold qce
 rw [if_pos (by omega)]
 rcases hk with h|h|h <;> rw [h] <;> exact⟨_,rfl⟩
theorem za4 {b:List qu} (hne:b≠[]) (hg:∀ x∈b,EncG x):SpL (encL b):=by
 refine⟨?_,fun s hs=>?_⟩
 ·cases b with
  |nil=>exact absurd rfl hne
  |cons x r=>simp [encL]
 ·obtain⟨x,hx,hs⟩:=List.mem_flatMap.1 hs
  have hG:=hg x hx
  rcases List.mem_cons.1 hs with rfl|hs
  ·exact⟨q40 x,zbi hG.kind⟩
  ·obtain⟨h1,t,ht⟩:=q34 hG.good s hs
   exact⟨h1,[32]++t,by rw [← ht];rfl⟩
theorem zb9 {L:List qb} (h:SpL L):sp true (zi L)=true:=by
 rw [← qkh _ (zi L) (Nat.le_refl _),qhu L fun s hs=>(h.2 s hs).1]
 intro x hx
 obtain⟨s,hs,rfl⟩:=List.mem_map.1 hx
 exact (h.2 s hs).2
theorem q6i {L:List qb} (h:SpL L):(zi L)[0]? = some 32:=by
 obtain⟨hne,hs⟩:=h
 cases L with
 |nil=>exact absurd rfl hne
 |cons s r=>
  obtain⟨t,ht⟩:=(hs s (by simp)).2
  rw [qbz,← ht]
  rfl
theorem qt5:∀ (L:List qb),L≠[]→(zi L).getLast? = some 10
 | [],h=>absurd rfl h
 | [s],_=>by rw [qbz];simp [zi]
 |s::t::r,_=>by
  have ih:=qt5 (t::r) (by simp)
  have hne:zi (t::r)≠[]:=fun e=>by rw [e] at ih;simp at ih
  rw [qbz,List.getLast?_append,List.getLast?_cons,ih]
  simp
theorem q4l {b:List qu} (he:eErr b = .no) (hB:∀ x∈b,EdB x) (hl:(encF b).length≤50000):qas (encF b):=by
 obtain⟨h1,h40,hg⟩:=qe1 he
 have hG:∀ y∈b,EncG y:=fun y hy=>za3 (hg y hy) (hB y hy)
 have hne:b≠[]:=fun e=>by subst e;simp at h1
 have hS:=za4 hne hG
 have ht:=q4k hG
 have hh:=q6i hS
 have hlast:=qt5 _ hS.1
 rw [← ht] at hh hlast
 have hsp:=zb9 hS
 rw [← ht] at hsp
 refine⟨?_,hl,hlast,by rw [qik];exact hsp⟩
 rcases hc:encF b with _ | ⟨c,_ | ⟨d,r⟩⟩
 ·rw [hc] at hh;simp at hh
 ·rw [hc] at hh hlast
  simp at hh hlast
  rw [hh] at hlast
  simp at hlast
 ·simp
end Go.Pl
namespace Go.Proofs.YtmoklbacdkmkaaaGreatDoor
open Go Go.Av Go.RowKit Go.Proofs Go.Pl
def qpd (b:List qu):Prop:=b.length≤51∧∀ x∈b,q9w x.fields
def ArgE (b:List qu):Prop:=b.length<9223372036854775808∧∀ x∈b,x.fields.length<9223372036854775808∧-9223372036854775808≤x.id∧x.id≤9223372036854775807
theorem zbh {b:List qu} (hA:ArgE b) (h:qpd b):∀ x∈b,EdB x:=fun x hx=>⟨fun f hf=>((h.2 x hx).val f hf).1,(hA.2 x hx).1,(hA.2 x hx).2.1,(hA.2 x hx).2.2⟩
theorem qjm {l:qb} {i:Nat} {c:UInt8} (h:l[i]? = some c):l.getD i 0=c:=by simp [List.getD,h]
def ArgX (x:qu):Prop:=x.fields.length<9223372036854775808∧-9223372036854775808≤x.id∧x.id≤9223372036854775807
theorem q8s:Opn Tryz.prog 97 fun a=>∃ x:qu,a=j6 x∧ArgX x:=by
 intro H enc W fuel cs x h
 obtain⟨a,⟨vs,rfl,hl,hv⟩,hr⟩:=qkm (As:=[(some (.int .i64),IsI .i64),(some (.int .i64),IsI .i64),(some (.slice 156),fun a=>∃ xs:List FldV,a=zz xs∧xs.length≤maxLen)]) (by kernel_rfl) (by kernel_rfl) (by kernel_rfl) (by kernel_rfl)
  (List.forall_mem_cons.2 ⟨⟨fun _ h=>qu0 h,q2k _⟩,List.forall_mem_cons.2 ⟨⟨fun _ h=>qu0 h,q2k _⟩,List.forall_mem_cons.2 ⟨⟨fun _ h=>q8t h,q8q⟩,nofun⟩⟩⟩) H enc W fuel cs x h
 match vs,hl with
 | [v0,v1,v2],_=>
  obtain⟨n0,rfl,w0⟩:=hv 0 _ _ rfl rfl
  obtain⟨n1,rfl,w1⟩:=hv 1 _ _ rfl rfl
  obtain⟨xs,rfl,m⟩:=hv 2 _ _ rfl rfl
  exact⟨_,⟨⟨n0,n1,xs⟩,rfl,qwu m,lit_i64 w1⟩,hr⟩
theorem qjy {α : Type} {g : α→AV} {P : α→Prop}:∀ {xs:List AV},(∀ x∈xs,∃ a,x=g a∧P a)→∃ ys:List α,xs=ys.map g∧∀ a∈ys,P a
 | [],_=>⟨[],rfl,by simp⟩
 |x::r,h=>by
  obtain⟨ys,hys,has⟩:=qjy (xs:=r) fun y hy=>h y (List.mem_cons_of_mem _ hy)
  obtain⟨a,rfl,ha⟩:=h x (by simp)
  subst hys
  refine⟨a::ys,rfl,fun b hb=>?_⟩
  rcases List.mem_cons.1 hb with rfl|hb
  ·exact ha
  ·exact has b hb
theorem q5i {t:TypeId} (hu:Tryz.prog.underlying t=some (.slice 97)):Opn Tryz.prog t fun a=>∃ xs:List qu,a=zj xs∧ArgE xs:=by
 intro H enc W fuel cs x h
 obtain⟨a,⟨xs,rfl,hl,hx⟩,hr⟩:=qq3 (sz:=3) hu (by kernel_rfl) (by decide) q8s H enc W fuel cs x h
 obtain⟨rs,rfl,hrs⟩:=qjy hx
 exact⟨_,⟨rs,rfl,qwu (by simpa using hl),hrs⟩,hr⟩
theorem q4d:∀ (ps:List qb) (acc b:List qu),(∀ x∈acc,EdB x)→decP ps acc=some b→∀ x∈b,EdB x
 | [],acc,b,h,e=>by
  rw [decP] at e
  cases e
  exact h
 |p::r,acc,b,h,e=>by
  rw [decP] at e
  split at e
  ·simp at e
  ·rename_i k n hb
   split at e
   ·refine q4d r _ b (fun x hx=>?_) e
    rcases List.mem_append.1 hx with hx|hx
    ·exact h x hx
    ·obtain rfl:=List.mem_singleton.1 hx
     exact q4i (qr2 hb).1 (qr2 hb).2 (qnp _)
   ·simp at e
theorem zcv {text:qb} {b:List qu} (h:decF text=some b):∀ x∈b,EdB x:=by
 unfold decF at h
 split at h
 ·simp at h
 ·split at h
  ·simp at h
  ·rename_i c hc
   split at h
   ·cases h
    exact q4d _ _ _ (by simp) hc
   ·simp at h
end Go.Proofs.YtmoklbacdkmkaaaGreatDoor
namespace Go.Pl
open Go Go.Proofs Go.Proofs.YtmoklbacdkmkaaaGreatDoor
def OutG (out:List qu) (m:Nat):Prop:=∀ x∈out,(∀ f∈x.fields,vi f)∧x.fields.length≤m∧-9223372036854775808≤x.id∧x.id≤9223372036854775807
theorem OutG.mono {out:List qu} {m m':Nat} (h:OutG out m) (hm:m≤m'):OutG out m':=fun x hx=>⟨(h x hx).1,by have:=(h x hx).2.1;omega,(h x hx).2.2⟩
end Go.Pl
namespace Go.Pl
open Go Go.Proofs
def vg:List (qb×Bool)→List qb
 | []=>[]
 |(t,_)::r=>if qw t=3 then t::vg r else []
def wm (prev:Bool) (t:qb) (e:Bool) (r:List (qb×Bool)) (fields:Nat) (records:Int):Int:=
 if qw t=5∨(qw t=3∧prev=false)∨e=false then 2
 else if qw t≠4 then 0
 else if (je (t::vg r)).2≠0 then (je (t::vg r)).2
 else if 40≤fields∨(fields=0∧400≤records) then 11 else 0
theorem qyw {α : Type} {l:List α} {x : α} (h:l.getLast? = some x):l.dropLast++[x]=l:=by
 have hne:l≠[]:=fun e=>by subst e;simp at h
 rw [List.getLast?_eq_some_getLast hne] at h
 obtain rfl:=Option.some.inj h
 exact List.dropLast_concat_getLast hne
def outR (now:zm) (out:List zm):List zm:=if now.raw=[] then out else out++[now]
def refL:Nat→List (qb×Bool)→Bool→zm→Int→List zm→Option (Int×Int)×List zm
 | _,[],_,now,_,out=>(none,outR now out)
 |i,(t,e)::r,prev,now,rec,out=>
  if wm prev t e r now.fields.length rec≠0 then (some ((i:Int),wm prev t e r now.fields.length rec),[])
  else if qw t=1 then refL (i+1) r false ⟨2,[],[]⟩ rec (outR now out++[⟨1,t++[10],[]⟩])
  else if qw t=4 then refL (i+1) r true ⟨3,now.raw++t++[10],now.fields++[(je (t::vg r)).1]⟩ (if now.kind=2 then rec+1 else rec) out
  else refL (i+1) r (decide (qw t=3)) ⟨now.kind,now.raw++t++[10],now.fields⟩ rec out
def quv:List (qb×Bool)→Prop
 | []=>True
 |(_,e)::r=>(e=false→r=[])∧quv r
theorem qny:∀ (n:Nat) (l:qb),l.length≤n→quv (zl l)
 | 0,l,h=>by
  have:l=[]:=List.length_eq_zero_iff.1 (by omega)
  subst this
  rw [vq]
  trivial
 |n+1,l,h=>by
  by_cases hl:l=[]
  ·subst hl
   rw [vq]
   trivial
  ·rw [v7 hl]
   refine⟨fun he=>?_,qny n _ (by have:=wo (c:=10) hl;omega)⟩
   have h10:10∉l:=by simpa using he
   have:past 10 l=[]:=by
    unfold past
    rw [qb0 h10]
    exact List.drop_eq_nil_of_le (by omega)
   rw [this,vq]
def qde (ls:List qb) (full:Bool):Int:=if (je ls).2≠0 then (je ls).2 else if full=true then 11 else 0
theorem qgp {p:PSt} (h:p.lines≠[]) (hc:qde p.lines p.full≠0):(jr p).1=some (p.frm,qde p.lines p.full):=by
 unfold qde at *
 unfold jr
 rw [if_neg h]
 by_cases h1:(je p.lines).2≠0
 ·rw [if_pos h1,if_pos h1]
 ·rw [if_neg h1] at hc ⊢
  rw [if_neg h1]
  by_cases h2:p.full=true
  ·rw [if_pos h2,if_pos h2]
  ·rw [if_neg h2] at hc
   exact absurd rfl hc
theorem qtf {p:PSt} (h:p.lines=[]∨qde p.lines p.full=0):jr p=(none,{ p with lines:=[],fields:=p.fields++(if p.lines=[] then [] else [(je p.lines).1]) }):=by
 unfold jr
 by_cases h0:p.lines=[]
 ·rw [if_pos h0,if_pos h0]
  obtain⟨a,b,c,d,e,f,g⟩:=p
  simp only at h0
  subst h0
  simp
 ·rw [if_neg h0,if_neg h0]
  have h:=h.resolve_left h0
  unfold qde at h
  by_cases h1:(je p.lines).2≠0
  ·rw [if_pos h1] at h
   exact absurd h h1
  ·rw [if_neg h1] at h ⊢
   by_cases h2:p.full=true
   ·rw [if_pos h2] at h
    simp at h
   ·rw [if_neg h2]
theorem qo5 {p:PSt} {no:Int} {t:qb} {e:Bool} {x:Int×Int} (h:(jn p no t e (qw t)).1=some x):(wq p no t e).1=some x:=by
 unfold wq
 rw [h]
theorem qo6 {p q:PSt} {no:Int} {t:qb} {e:Bool} (h:jn p no t e (qw t)=(none,q)) (hc:qw t=5∨e=false):(wq p no t e).1=some (no,2):=by
 unfold wq
 rw [h]
 simp only
 rw [if_pos hc]
theorem qju {p q:PSt} {no:Int} {t:qb} (h:jn p no t true (qw t)=(none,q)) (hc:qw t≠5):wq p no t true =
  if qw t=1 then (none,{ q with items:=q.items++[⟨1,t++[10],[]⟩] }) else if qw t=4 then (none,{ ve q no t with block:=q.block++[t] }) else (none,{ q with block:=q.block++[t] }):=by
 unfold wq
 rw [h]
 simp only
 rw [if_neg (by simp [hc])]
theorem qd8 {k:Nat} {t:qb} {e:Bool} {r:List (qb×Bool)} {p:PSt} {x:Int×Int} (h:(wq p k t e).1=some x):(runL k ((t,e)::r) p).1=some x:=by
 rw [runL,h]
theorem qf3 {k:Nat} {t:qb} {e:Bool} {r:List (qb×Bool)} {p q:PSt} (h:wq p k t e=(none,q)):runL k ((t,e)::r) p=runL (k+1) r q:=by
 rw [runL,h]
theorem qph {p:PSt} {no:Int} {t:qb} (hk:qw t=3) (hl:p.lines≠[]):jn p no t true (qw t)=(none,{ p with lines:=p.lines++[t] }):=by
 unfold jn
 rw [if_pos hk,if_neg hl,if_pos rfl]
theorem qpg {p:PSt} {no:Int} {t:qb} (hk:qw t=3) (hl:p.lines≠[]):jn p no t false (qw t)=jr { p with lines:=p.lines++[t] }:=by
 unfold jn
 rw [if_pos hk,if_neg hl,if_neg (by simp)]
theorem qfc {p:PSt} {no:Int} {t:qb} {e:Bool} (hk:qw t≠3) (h1:qw t≠1):jn p no t e (qw t)=jr p:=by
 unfold jn
 rw [if_neg hk,if_neg h1]
theorem qi0 {p:PSt} {no:Int} {t:qb} {e:Bool} (h1:qw t=1):jn p no t e (qw t)=endP p:=by
 unfold jn
 rw [if_neg (by omega),if_pos h1]
theorem qkk {t:qb} {e:Bool} {r:List (qb×Bool)} (h:qw t≠3):vg ((t,e)::r)=[]:=by
 rw [vg,if_neg h]
theorem qfj {t:qb} {e:Bool} {r:List (qb×Bool)} (h:qw t=3):vg ((t,e)::r)=t::vg r:=by
 rw [vg,if_pos h]
theorem qv6 {p:PSt} {x:Int×Int} (h:(jr p).1=some x):(endP p).1=some x:=by
 unfold endP
 rw [h]
theorem qr5 {p q:PSt} (h:jr p=(none,q)):endP p=(none,xy q):=by
 unfold endP
 rw [h]
theorem qxk:∀ (r:List (qb×Bool)) (p:PSt) (k:Nat) (c:Int),quv r→p.lines≠[]→qde (p.lines++vg r) p.full=c→c≠0→(runL k r p).1=some (p.frm,c)
 | [],p,k,c,_,hl,hc,h0=>by
  rw [vg,List.append_nil] at hc
  rw [runL]
  subst hc
  exact qv6 (qgp hl h0)
 |(t,e)::r,p,k,c,hE,hl,hc,h0=>by
  by_cases h3:qw t=3
  ·rw [qfj h3] at hc
   cases e with
   |true=>
    have ht:=qju (qph (no:=k) h3 hl) (by omega)
    rw [if_neg (by omega),if_neg (by omega)] at ht
    rw [qf3 ht]
    exact qxk r _ (k+1) c hE.2 (by simp) (by simpa using hc) h0
   |false=>
    have hr:=hE.1 rfl
    subst hr
    refine qd8 (qo5 ?_)
    rw [qpg h3 hl]
    have hc':qde (p.lines++[t]) p.full=c:=hc
    have:=qgp (p:={ p with lines:=p.lines++[t] }) (by simp) (by simp only;rw [hc'];exact h0)
    simp only at this
    rw [this,hc']
  ·rw [qkk h3,List.append_nil] at hc
   subst hc
   refine qd8 (qo5 ?_)
   by_cases h1:qw t=1
   ·rw [qi0 h1]
    exact qv6 (qgp hl h0)
   ·rw [qfc h3 h1]
    exact qgp hl h0
structure Sim (r:List (qb×Bool)) (p:PSt) (prev:Bool) (now:zm) (rec:Int) (out:List zm):Prop where
 hprev:prev=decide (p.lines≠[])
 hok:p.lines=[]∨qde (p.lines++vg r) p.full=0
 hraw:now.raw=zi p.block
 hfields:now.fields=p.fields++(if p.lines=[] then [] else [(je (p.lines++vg r)).1])
 hkind:now.kind=if now.fields=[] then 2 else 3
 hrec:rec=p.records+if now.fields=[] then 0 else 1
 hout:out=p.items
 hempty:p.block=[]→p.lines=[]∧p.fields=[]
 b1:now.fields.length≤40
 b2:rec≤400
theorem q6h (b:List qb):zi b=[]↔b=[]:=by
 cases b with
 |nil=>simp [zi]
 |cons x r=>simp [zi]
theorem qk7 (b:List qb) (t:qb):zi (b++[t])=zi b++t++[10]:=by simp [zi]
theorem Sim.flush {r:List (qb×Bool)} {p:PSt} {prev:Bool} {now:zm} {rec:Int} {out:List zm} (h:Sim r p prev now rec out) (hm:vg r=[]):jr p=(none,{ p with lines:=[],fields:=now.fields }):=by
 have h1:=h.hok
 have h2:=h.hfields
 rw [hm,List.append_nil] at h1 h2
 rw [qtf h1,h2]
theorem Sim.close {r:List (qb×Bool)} {p:PSt} {prev:Bool} {now:zm} {rec:Int} {out:List zm} (h:Sim r p prev now rec out) (hm:vg r=[]):xy { p with lines:=[],fields:=now.fields }={ p with lines:=[],fields:=[],block:=[],items:=outR now out,records:=rec }:=by
 have hk:=h.hkind
 have hr:=h.hrec
 have hw:=h.hraw
 have ho:=h.hout
 unfold xy outR
 simp only
 by_cases hb:p.block=[]
 ·obtain⟨e1,e2⟩:=h.hempty hb
  have hf:now.fields=[]:=by rw [h.hfields,e1,e2];simp
  rw [if_pos hb,if_pos (by rw [hw,hb];rfl),ho,hr,hf]
  simp
 ·have hne:¬ now.raw=[]:=by rw [hw,q6h];exact hb
  rw [if_neg hb,if_neg hne,ho,hr,← hw]
  obtain⟨nk,nr,nf⟩:=now
  simp only at hk hne ⊢
  by_cases hf:nf=[]
  ·rw [if_pos hf] at hk
   simp [hf,hk,hne]
  ·rw [if_neg hf] at hk
   simp [hf,hk,hne]
theorem qjs:∀ (r:List (qb×Bool)) (k:Nat) (p:PSt) (prev:Bool) (now:zm) (rec:Int) (out:List zm),quv r→Sim r p prev now rec out →
  refL k r prev now rec out=match (runL k r p).1 with
   |some e=>(some e,[])
   |none=>(none,(runL k r p).2.items)
 | [],k,p,prev,now,rec,out,_,h=>by
  rw [runL,qr5 (h.flush rfl),h.close rfl,refL]
 |(t,e)::r,k,p,prev,now,rec,out,hE,h=>by
  rw [refL]
  by_cases h3:qw t=3
  ·by_cases hl:p.lines=[]
   ·have hp:prev=false:=by rw [h.hprev];simp [hl]
    have hw:wm prev t e r now.fields.length rec=2:=by
     unfold wm
     rw [if_pos (.inr (.inl ⟨h3,hp⟩))]
    rw [hw,if_pos (by decide),qd8 (x:=((k:Int),2)) (qo5 (by unfold jn;rw [if_pos h3,if_pos hl]))]
   ·cases e with
    |true=>
     have hp:prev=true:=by rw [h.hprev];simp [hl]
     have hw:wm prev t true r now.fields.length rec=0:=by
      unfold wm
      rw [if_neg (by simp [hp];omega),if_pos (by omega)]
     have ht:=qju (qph (no:=k) h3 hl) (by omega)
     rw [if_neg (by omega),if_neg (by omega)] at ht
     rw [hw,if_neg (by simp),if_neg (by omega),if_neg (by omega),qf3 ht]
     have hm:=qfj (e:=true) (r:=r) h3
     have hok:=h.hok.resolve_left hl
     have hfs:=h.hfields
     rw [if_neg hl,hm] at hfs
     rw [hm] at hok
     refine qjs r (k+1) _ _ _ _ _ hE.2 ⟨by simp [h3],.inr (by simpa using hok),by rw [qk7,← h.hraw],by simp [hfs],h.hkind,h.hrec,h.hout,by simp,h.b1,h.b2⟩
    |false=>
     have hr:=hE.1 rfl
     subst hr
     have hw:wm prev t false [] now.fields.length rec=2:=by
      unfold wm
      rw [if_pos (.inr (.inr rfl))]
     have hok:=h.hok.resolve_left hl
     rw [qfj h3] at hok
     have hf:=qtf (p:={ p with lines:=p.lines++[t] }) (.inr hok)
     rw [hw,if_pos (by decide),qd8 (x:=((k:Int),2)) (qo6 ((qpg h3 hl).trans hf) (.inr rfl))]
  ·have hm:=qkk (e:=e) (r:=r) h3
   have hf:=h.flush hm
   have hc:=h.close hm
   by_cases hbad:qw t=5∨e=false
   ·have hw:wm prev t e r now.fields.length rec=2:=by
     unfold wm
     rw [if_pos (by rcases hbad with h|h;exact .inl h;exact .inr (.inr h))]
    rw [hw,if_pos (by decide)]
    by_cases h1:qw t=1
    ·rw [qd8 (x:=((k:Int),2)) (qo6 ((qi0 h1).trans (qr5 hf)) hbad)]
    ·rw [qd8 (x:=((k:Int),2)) (qo6 ((qfc h3 h1).trans hf) hbad)]
   ·have he:e=true:=by
     cases e with
     |true=>rfl
     |false=>exact absurd (.inr rfl) hbad
    have h5:qw t≠5:=fun h=>hbad (.inl h)
    subst he
    by_cases h1:qw t=1
    ·have hw:wm prev t true r now.fields.length rec=0:=by
      unfold wm
      rw [if_neg (by simp [h3,h5]),if_pos (by omega)]
     have ht:=qju ((qi0 (no:=k) h1).trans (qr5 hf)) h5
     rw [if_pos h1,hc] at ht
     rw [hw,if_neg (by simp),if_pos h1,qf3 ht]
     exact qjs r (k+1) _ _ _ _ _ hE.2 ⟨by simp,.inl rfl,rfl,by simp,by simp,by simp,rfl,by simp,by simp,h.b2⟩
    ·by_cases h4:qw t=4
     ·have ht:=qju ((qfc (no:=k) h3 h1).trans hf) h5
      rw [if_neg h1,if_pos h4] at ht
      rw [qf3 ht]
      have hb1:=h.b1
      have hb2:=h.b2
      have hrec:=h.hrec
      have hfull:(40≤now.fields.length∨(now.fields.length=0∧400≤rec))↔(now.fields.length=40∨(now.fields.length=0∧p.records=400)):=by
       by_cases hz:now.fields=[]
       ·rw [if_pos hz] at hrec
        simp only [hz,List.length_nil]
        constructor
        ·rintro (h'|h')
         ·exact absurd h' (by decide)
         ·exact .inr ⟨trivial,by omega⟩
        ·rintro (h'|h')
         ·exact absurd h' (by decide)
         ·exact .inr ⟨trivial,by omega⟩
       ·have:now.fields.length≠0:=fun h=>hz (List.length_eq_zero_iff.1 h)
        constructor
        ·rintro (h'|h')
         ·exact .inl (by omega)
         ·exact absurd h'.1 this
        ·rintro (h'|h')
         ·exact .inl (by omega)
         ·exact absurd h'.1 this
      have hw:wm prev t true r now.fields.length rec=qde (t::vg r) (decide (now.fields.length=40∨(now.fields.length=0∧p.records=400))):=by
       unfold wm qde
       rw [if_neg (by simp [h3,h5]),if_neg (by omega)]
       by_cases hu:(je (t::vg r)).2≠0
       ·rw [if_pos hu,if_pos hu]
       ·rw [if_neg hu,if_neg hu]
        by_cases hx:40≤now.fields.length∨(now.fields.length=0∧400≤rec)
        ·rw [if_pos hx,if_pos (decide_eq_true (hfull.1 hx))]
        ·rw [if_neg hx,if_neg (by simpa using fun h=>hx (hfull.2 h))]
      by_cases hw0:wm prev t true r now.fields.length rec=0
      ·rw [if_neg (by simp [hw0]),if_neg h1,if_pos h4]
       have hx:¬ (40≤now.fields.length∨(now.fields.length=0∧400≤rec)):=fun hx=>by
        unfold wm at hw0
        rw [if_neg (by simp [h3,h5]),if_neg (by omega)] at hw0
        by_cases hu:(je (t::vg r)).2≠0
        ·rw [if_pos hu] at hw0;exact hu hw0
        ·rw [if_neg hu,if_pos hx] at hw0;simp at hw0
       rw [hw] at hw0
       refine qjs r (k+1) _ _ _ _ _ hE.2 ⟨by simp [ve],.inr hw0,by simp only [ve];rw [qk7,← h.hraw],by simp [ve],by simp,?_,h.hout,by simp [ve],by simp;omega,?_⟩
       ·have hkd:=h.hkind
        simp only [ve]
        by_cases hz:now.fields=[]
        ·rw [if_pos hz] at hrec hkd
         rw [hkd]
         simp
         omega
        ·rw [if_neg hz] at hrec hkd
         rw [hkd]
         simp
         omega
       ·rw [h.hkind]
        by_cases hz:now.fields=[]
        ·have:now.fields.length=0:=by rw [hz];rfl
         rw [if_pos hz,if_pos rfl]
         omega
        ·rw [if_neg hz,if_neg (by decide)]
         exact hb2
      ·rw [if_pos hw0]
       have:=qxk r { ve { p with lines:=[],fields:=now.fields } k t with block:=p.block++[t] } (k+1) (wm prev t true r now.fields.length rec) hE.2 (by simp [ve]) hw.symm hw0
       simp only [ve] at this ⊢
       rw [this]
     ·have hw:wm prev t true r now.fields.length rec=0:=by
       unfold wm
       rw [if_neg (by simp [h3,h5]),if_pos h4]
      have ht:=qju ((qfc (no:=k) h3 h1).trans hf) h5
      rw [if_neg h1,if_neg h4] at ht
      rw [hw,if_neg (by simp),if_neg h1,if_neg h4,qf3 ht]
      exact qjs r (k+1) _ _ _ _ _ hE.2 ⟨by simp [h3],.inl rfl,by rw [qk7,← h.hraw],by simp,h.hkind,h.hrec,h.hout,by simp,h.b1,h.b2⟩
theorem qi9 (text:qb):refL 0 (zl text) false ⟨2,[],[]⟩ 0 []=jv text:=by
 unfold jv
 exact qjs (zl text) 0 p0 false ⟨2,[],[]⟩ 0 [] (qny _ text (Nat.le_refl _)) ⟨by simp [p0],.inl rfl,rfl,by simp [p0],by simp,by simp [p0],rfl,by simp [p0],by simp,by omega⟩
end Go.Pl
namespace Go.Pl
open Go Go.Proofs Go.Proofs.YtmoklbacdkmkaaaGreatDoor
theorem qq9 {l b:qb} {n:Int} (h:z8 l=(1,b,n)):qas b∧∃ m,l=recF b++m∧n=(recF b).length:=by
 unfold z8 at h
 split at h
 ·rename_i h10
  split at h
  ·rename_i ho
   generalize hr:past 10 l=r at *
   have hl:=xw h10
   rw [hr] at hl
   generalize hu:upto 10 l=u at *
   have hop:u=xh (jd u).1 (jd u).2.1∧2≤(jd u).1∧(jd u).1≤50000:=by
    simp only [jd,decide_eq_true_eq] at ho ⊢
    obtain⟨o1,o2,o3,o4,o5⟩:=ho
    refine⟨?_,o3,qbw _⟩
    obtain⟨t,rfl⟩:=o1
    rw [qro] at *
    have:=qfk rfl (Nat.le_trans (by decide) o3)
    unfold xh
    rw [← this,← xw o2]
   generalize (jd u).1=n at *
   generalize (jd u).2.1=fig at *
   obtain⟨rfl,h2,hn⟩:=hop
   split at h
   ·unfold qd4 at h
    split at h <;> simp at h
   ·rename_i hge
    split at h
    ·rename_i hg
     have hlen:(r.take n).length=n:=by simp;omega
     unfold qb8 at h
     rw [hlen] at h
     split at h
     ·simp at h
     ·split at h
      ·rename_i hc
       obtain⟨⟨m,hm⟩,hs⟩:=hc
       simp only [Prod.mk.injEq,true_and] at h
       obtain⟨rfl,rfl⟩:=h
       refine⟨hg,m,?_,?_⟩
       ·rw [qm2,hlen,← hs,hl]
        unfold recL
        conv=>lhs;rw [← List.take_append_drop n r,← hm]
        simp
       ·rw [qzf _ hg,hlen]
      ·simp at h
    ·simp at h
  ·simp at h
 ·split at h <;> simp at h
theorem qsc (s sub:qb) (i:Nat):Lib.occAt s sub i=true↔sub <+: s.drop i:=by
 unfold Lib.occAt
 rw [List.isPrefixOf_iff_prefix]
theorem zcu {a:qb} (r:qb) (h:10∉a):Lib.cut (a++10::10::r) [10,10]=(a,r,true):=by
 have hi:Lib.index (a++10::10::r) [10,10]=(a.length:Int):=by
  refine Lib.index_first (by simp) ?_ fun j hj=>?_
  ·rw [qsc,List.drop_left]
   exact⟨r,rfl⟩
  ·cases hb:Lib.occAt (a++10::10::r) [10,10] j with
   |false=>rfl
   |true=>
    obtain⟨t,ht⟩:=(qsc _ _ _).1 hb
    rw [List.drop_append_of_le_length (by omega)] at ht
    have:a.drop j≠[]:=by
     intro e
     have:=congrArg List.length e
     simp at this
     omega
    obtain⟨c,q,hq⟩:=List.exists_cons_of_ne_nil this
    rw [hq] at ht
    have h10:c=10:=by simpa using (List.cons.inj ht).1.symm
    exact absurd (List.mem_of_mem_drop (by rw [hq,h10];simp:(10:UInt8)∈a.drop j)) h
 unfold Lib.cut
 rw [hi,if_pos (by omega)]
 simp only [Int.toNat_natCast,List.take_left',List.length_cons,List.length_nil]
 rw [show a.length+(0+1+1)=(a++[10,10]).length by simp,show a++10::10::r=(a++[10,10])++r by simp,List.drop_left]
theorem q7l {l m:qb} (h:(Lib.cut l m).2.2=true):l=(Lib.cut l m).1++m++(Lib.cut l m).2.1:=by
 rcases Lib.index_spec l m with⟨h1,_⟩ | ⟨i,h1,h2,h3,_⟩
 ·unfold Lib.cut at h
  rw [h1,if_neg (by omega)] at h
  simp at h
 ·unfold Lib.cut
  rw [h1,if_pos (by omega)]
  simp only [Int.toNat_natCast]
  obtain⟨t,ht⟩:=(qsc _ _ _).1 h3
  have e:l.drop (i+m.length)=t:=by rw [← List.drop_drop,← ht,List.drop_left]
  rw [e,List.append_assoc,ht,List.take_append_drop]
def genL:qb:=[35,37,103,101,110,32]
def xk (n:Int):qb:=genL++Lib.itoa n++[10,10]
def y5 (n:Int):Prop:=1≤n∧n≤2147483648
instance (n:Int):Decidable (y5 n):=inferInstanceAs (Decidable (_∧_))
def xm (text:qb):Int×qb:=
 if genL <+: text then
  match numZ (upto 10 (text.drop 6)) with
  |some n=>if y5 n∧[10,10] <+: text.drop (6+(upto 10 (text.drop 6)).length) then (n,text.drop (8+(upto 10 (text.drop 6)).length)) else (0,text)
  |none=>(0,text)
 else (0,text)
theorem qkd (v:Int):(10:UInt8)∉Lib.itoa v:=by
 intro h
 by_cases hv:v<0
 ·rw [qhq hv] at h
  rcases List.mem_cons.1 h with h|h
  ·simp at h
  ·have:=wt _ _ (Nat.le_refl _) _ h
   simp at this
 ·rw [qhr (by omega)] at h
  have:=wt _ _ (Nat.le_refl _) _ h
  simp at this
theorem qkf (n:Int) (r:qb):xk n++r=genL++(Lib.itoa n++10::10::r):=by simp [xk]
theorem qk5 {n:Int} (h:y5 n) (r:qb):xm (xk n++r)=(n,r):=by
 unfold xm
 have hd:(genL++(Lib.itoa n++10::10::r)).drop 6=Lib.itoa n++10::10::r:=by rw [show (6:Nat)=genL.length by rfl,List.drop_left]
 rw [qkf,if_pos (List.prefix_append _ _),hd,yp _ (qkd n),q46 (by have:=h.1;omega) (by have:=h.2;omega)]
 have e1:(genL++(Lib.itoa n++10::10::r)).drop (6+(Lib.itoa n).length)=10::10::r:=by rw [← List.drop_drop,hd,List.drop_left]
 have e2:(genL++(Lib.itoa n++10::10::r)).drop (8+(Lib.itoa n).length)=r:=by
  rw [show 8+(Lib.itoa n).length=(6+(Lib.itoa n).length)+2 by omega,← List.drop_drop,e1]
  rfl
 simp only
 rw [e1,e2,if_pos ⟨h,r,rfl⟩]
theorem qt4 {text:qb} (h:∀ n r,y5 n→text≠xk n++r):xm text=(0,text):=by
 unfold xm
 split
 ·rename_i hp
  obtain⟨t,rfl⟩:=hp
  have hd:(genL++t).drop 6=t:=by rw [show (6:Nat)=genL.length by rfl,List.drop_left]
  rw [hd]
  split
  ·rename_i n hn
   split
   ·rename_i hc
    obtain⟨hg,r,hr⟩:=hc
    rw [← List.drop_drop,hd] at hr
    obtain⟨he,_⟩:=q47 hn
    refine absurd ?_ (h n r hg)
    rw [qkf,← he]
    congr 1
    conv=>lhs;rw [← List.take_append_drop (upto 10 t).length t,qiz,← hr]
    rfl
   ·rfl
  ·rfl
 ·rfl
theorem qn6 (text:qb):(∃ n r,y5 n∧text=xk n++r∧xm text=(n,r))∨((∀ n r,y5 n→text≠xk n++r)∧xm text=(0,text)):=by
 by_cases h:∃ n r,y5 n∧text=xk n++r
 ·obtain⟨n,r,hg,rfl⟩:=h
  exact .inl ⟨n,r,hg,rfl,qk5 hg r⟩
 ·have h':∀ n r,y5 n→text≠xk n++r:=fun n r hg e=>h ⟨n,r,hg,e⟩
  exact .inr ⟨h',qt4 h'⟩
def wn (n:Int):qb:=if y5 n then xk n else []
theorem qjb (text:qb):text=wn (xm text).1++(xm text).2∧((xm text).1=0∨y5 (xm text).1):=by
 rcases qn6 text with⟨n,r,hg,he,ht⟩ | ⟨_,ht⟩
 ·rw [ht]
  simp only
  unfold wn
  rw [if_pos hg]
  exact⟨he,.inr hg⟩
 ·rw [ht]
  exact⟨rfl,.inl rfl⟩
theorem qtm {n:Int} (h:y5 n):(xk n).length≤28:=by
 have:=ql9 (v:=n) (by have:=h.1;omega) (by have:=h.2;omega)
 simp [xk,genL]
 omega
def begF (l:qb):Bool:=decide (l.head? = some 37∧qw l=5)
def ki (n:Nat) (l:qb):Nat:=if h:l=[] then n else if begF (upto 10 l)=true then n - l.length else ki n (past 10 l)
 termination_by l.length
 decreasing_by exact wo h
theorem qj4 (n:Nat):ki n []=n:=by rw [ki,dif_pos rfl]
theorem qpx {n:Nat} {l:qb} (h:l≠[]) (hb:begF (upto 10 l)=true):ki n l=n - l.length:=by rw [ki,dif_neg h,if_pos hb]
theorem qsz {n:Nat} {l:qb} (h:l≠[]) (hb:¬ begF (upto 10 l)=true):ki n l=ki n (past 10 l):=by
 conv=>lhs;rw [ki]
 rw [dif_neg h,if_neg hb]
theorem qlu:∀ (k n:Nat) (l:qb),l.length≤k→l.length≤n→n - l.length≤ki n l∧ki n l≤n
 | 0,n,l,h,hn=>by
  have:l=[]:=List.length_eq_zero_iff.1 (by omega)
  subst this
  rw [qj4]
  simp
 |k+1,n,l,h,hn=>by
  by_cases hl:l=[]
  ·subst hl;rw [qj4];simp
  ·by_cases hb:begF (upto 10 l)=true
   ·rw [qpx hl hb]
    omega
   ·have:=wo (c:=10) hl
    rw [qsz hl hb]
    have:=qlu k n (past 10 l) (by omega) (by omega)
    omega
theorem qgx:∀ (r:List (qb×Bool)) (k:Nat) (prev:Bool) (now:zm) (rec:Int) (out:List zm),(refL k r prev now rec out).1=none→∀ x∈r,qw x.1≠5∧x.2=true
 | [],_,_,_,_,_,_=>by simp
 |(t,e)::r,k,prev,now,rec,out,h=>by
  rw [refL] at h
  split at h
  ·simp at h
  ·rename_i hw
   have hx:qw t≠5∧e=true:=by
    unfold wm at hw
    split at hw
    ·simp at hw
    ·rename_i hc
     exact⟨fun h5=>hc (.inl h5),by cases e with|true=>rfl|false=>exact absurd (.inr (.inr rfl)) hc⟩
   have hr:∀ x∈r,qw x.1≠5∧x.2=true:=by
    split at h
    ·exact qgx r _ _ _ _ _ h
    ·split at h
     ·exact qgx r _ _ _ _ _ h
     ·exact qgx r _ _ _ _ _ h
   intro x hx'
   rcases List.mem_cons.1 hx' with rfl|hx'
   ·exact hx
   ·exact hr x hx'
theorem qzb {text:qb} (h:(jv text).1=none):∀ x∈zl text,begF x.1=false∧x.2=true:=fun x hx=>by
 rw [← qi9] at h
 obtain⟨h1,h2⟩:=qgx _ _ _ _ _ _ h x hx
 exact⟨by simp [begF,h1],h2⟩
theorem qig {n:Nat} {fig l:qb} (hf:qau fig) (h:l <+: xh n fig) (hne:l≠[]):begF l=true:=by
 have h10:10∉l:=qsf h (qel n hf)
 have h58:(58:UInt8)∉l:=qsf h fun h'=>by
  unfold xh at h'
  rcases List.mem_append.1 h' with h'|h'
  ·revert h';decide
  ·rcases List.mem_append.1 h' with h'|h'
   ·exact qqy n (by decide) h'
   ·rcases List.mem_cons.1 h' with h'|h'
    ·simp at h'
    ·exact ql7 hf (by decide) h'
 obtain⟨c,q,rfl⟩:=List.exists_cons_of_ne_nil hne
 have hc:c=37:=by
  obtain⟨t,ht⟩:=h
  unfold xh zy at ht
  exact (List.cons.inj ht).1
 subst hc
 have hk:=qnx h10 (fun hb=>by
  have:=hb 37 (by simp)
  revert this
  decide)
 simp only [begF,List.head?_cons,true_and,decide_eq_true_eq]
 rw [hk.2]
 rw [if_neg (by simp),if_neg (by simp [vu]),if_neg (fun h=>h58 h.1)]
theorem q33 {n:Nat} {fig body l:qb} (hf:qau fig) (h:l <+: recL n fig body) (hne:l≠[]):begF (upto 10 l)=true:=by
 rcases qtx (show l <+: xh n fig++10::(body++qdl n) from h) with h | ⟨r,rfl,hr⟩
 ·rw [qb0 (qsf h (qel n hf))]
  exact qig hf h hne
 ·cases r with
  |nil=>
   rw [List.append_nil,qb0 (qel n hf)]
   exact qig hf (List.prefix_refl _) (by simp [xh,zy])
  |cons c r=>
   have:c=10:=by obtain⟨t,ht⟩:=hr;exact (List.cons.inj ht).1
   subst this
   rw [yp _ (qel n hf)]
   exact qig hf (List.prefix_refl _) (by simp [xh,zy])
theorem zam {b:qb} (x:qb) (hg:qas b):begF (upto 10 (recF b++x))=true:=by
 rw [qm2]
 have hx:qau (sumF b):=qy2 (addP 0 b)
 unfold recL
 rw [List.append_assoc,List.cons_append,yp _ (qel _ hx)]
 exact qig hx (List.prefix_refl _) (by simp [xh,zy])
theorem q41:∀ (n:Nat) (l:qb) (k a:Nat),l.length≤n→∀ x∈vv k a l,x.text.length≤l.length
 |n,l,k,a,hn,x,hx=>by
  by_cases h:l=[]
  ·subst h;rw [qac] at hx;simp at hx
  ·have hlt:=wo (c:=10) h
   cases n with
   |zero=>omega
   |succ n=>
    rw [qbv h] at hx
    rcases List.mem_cons.1 hx with rfl|hx
    ·exact j8 10 l
    ·have:=q41 n (past 10 l) (k+1) (a+(upto 10 l).length+1) (by omega) x hx
     omega
structure j5 where
 gen:Int
 base:qb
 batches:List (List qu)
 ends : List Int
 tail:qb
def qff:j5:=⟨0,[],[],[],[]⟩
def jz (text:qb):ErrV:=if 60000<text.length then .num 1 else match (jv text).1 with
 |none=>.no
 |some (a,n)=>.at' a n
def recsF:Nat→qb→Int→List (List qu)→List Int→Bool×List (List qu)×List Int×qb
 | 0,l,_,bs,es=>(false,bs,es,l)
 |f+1,l,a,bs,es=>
  if (z8 l).1=2 then (false,bs,es,l)
  else if (z8 l).1=1 then match decF (z8 l).2.1 with
   |some b=>recsF f (l.drop (z8 l).2.2.toNat) (a+(z8 l).2.2) (bs++[b]) (es++[a+(z8 l).2.2])
   |none=>(true,bs,es,l)
  else (true,bs,es,l)
def qc3 (text:qb):qb:=(xm text).2
def atH (text:qb):Nat:=ki (qc3 text).length (qc3 text)
def qj2 (text:qb):qb:=(qc3 text).take (atH text)
def qdk (text:qb):Bool×List (List qu)×List Int×qb:=recsF (text.length+1) ((qc3 text).drop (atH text)) (((text.length - (qc3 text).length+atH text:Nat)):Int) [] []
def we (text:qb):ErrV×j5:=
 if 120000<text.length then (.num 1,qff)
 else match jz (qj2 text) with
  | .no=>if (qdk text).1=true then (.at' (qdk text).2.1.length 10,qff) else (.no,⟨(xm text).1,qj2 text,(qdk text).2.1,(qdk text).2.2.1,(qdk text).2.2.2⟩)
  |e=>(e,qff)
structure qge (b:List qu):Prop where
 ok:eErr b = .no
 B:∀ x∈b,EdB x
 len:(encF b).length≤50000
theorem qge.good {b:List qu} (h:qge b):qas (encF b):=q4l h.ok h.B h.len
theorem q73 {t:qb} {b:List qu} (h:decF t=some b):qge b∧encF b=t:=by
 obtain⟨h1,h2,h3⟩:=q7m h
 exact⟨⟨h1,zcv h,by rw [h2];exact h3⟩,h2⟩
def recE (b:List qu):qb:=recF (encF b)
def w7 (bs:List (List qu)):qb:=bs.flatMap recE
def qam (a:Int):List (List qu)→List Int
 | []=>[]
 |b::r=>(a+(recE b).length)::qam (a+(recE b).length) r
theorem qc1 (b:List qu) (r:List (List qu)):w7 (b::r)=recE b++w7 r:=rfl
theorem q2w (r:List (List qu)) (b:List qu):w7 (r++[b])=w7 r++recE b:=by simp [w7]
theorem qqd:∀ (r:List (List qu)) (a:Int) (b:List qu),qam a (r++[b])=qam a r++[a+(w7 r).length+(recE b).length]
 | [],a,b=>by simp [qam,w7]
 |x::r,a,b=>by
  rw [List.cons_append,qam,qam,qqd r,qc1]
  simp
  omega
theorem ql0:∀ (r:List (List qu)) (a:Int),(qam a r).length=r.length
 | [],_=>rfl
 |x::r,a=>by rw [qam];simp [ql0 r]
theorem qqc:∀ (r:List (List qu)) (a:Int),r≠[]→(qam a r).getLast? = some (a+(w7 r).length)
 | [],_,h=>absurd rfl h
 | [x],a,_=>by simp [qam,w7]
 |x::y::r,a,_=>by
  have:=qqc (y::r) (a+(recE x).length) (by simp)
  rw [qam,List.getLast?_cons]
  rw [this,qc1 x]
  simp
  omega
theorem qxm (b:List qu):0<(recE b).length:=by
 unfold recE
 rw [qm2]
 simp [recL,xh,zy]
theorem qxo:∀ (f:Nat) (l:qb) (a:Int) (xs xs':List (List qu)) (es es':List Int) (t:qb),l.length<f→recsF f l a xs es=(false,xs',es',t) →
  ∃ bs,l=w7 bs++t∧xs'=xs++bs∧es'=es++qam a bs∧(∀ b∈bs,qge b)∧(z8 t).1=2
 | 0,l,a,xs,xs',es,es',t,hl,h=>absurd hl (by omega)
 |f+1,l,a,xs,xs',es,es',t,hl,h=>by
  rw [recsF] at h
  split at h
  ·rename_i h2
   simp only [Prod.mk.injEq,true_and] at h
   obtain⟨rfl,rfl,rfl⟩:=h
   exact⟨[],by simp [w7],by simp,by simp [qam],by simp,h2⟩
  ·split at h
   ·rename_i h1
    split at h
    ·rename_i b hd
     obtain⟨hg,he⟩:=q73 hd
     have hrd:z8 l=(1,(z8 l).2.1,(z8 l).2.2):=by rw [← h1]
     obtain⟨_,m,hm,hn⟩:=qq9 hrd
     rw [← he] at hm hn
     have hm':l=recE b++m:=hm
     have hn':(z8 l).2.2=((recE b).length:Int):=hn
     have hpos:=qxm b
     have hlen:l.length=(recE b).length+m.length:=by rw [hm'];simp
     have hdr:l.drop (recE b).length=m:=by
      conv=>lhs;rw [hm']
      rw [List.drop_left]
     rw [hn',Int.toNat_natCast,hdr] at h
     obtain⟨bs,e1,e2,e3,e4,e5⟩:=qxo f m _ _ _ _ _ _ (by omega) h
     refine⟨b::bs,?_,by rw [e2];simp,by rw [e3];simp [qam],?_,e5⟩
     ·rw [qc1,List.append_assoc,← e1]
      exact hm'
     ·intro x hx
      rcases List.mem_cons.1 hx with rfl|hx
      ·exact hg
      ·exact e4 x hx
    ·simp at h
   ·simp at h
structure qag (text:qb) (b:j5):Prop where
 txt:text=wn b.gen++(b.base++(w7 b.batches++b.tail))
 gen:xm text=(b.gen,b.base++(w7 b.batches++b.tail))
 parse:jz b.base = .no
 good:∀ x∈b.batches,qge x
 tail:(z8 b.tail).1=2
 ends : b.ends = qam ((wn b.gen).length + b.base.length) b.batches
 len:text.length≤120000
def BegP (x:qb):Prop:=x=[]∨begF (upto 10 x)=true
theorem q32 {t:qb} (h:(z8 t).1=2):BegP t:=by
 by_cases h0:t=[]
 ·exact .inl h0
 ·obtain⟨n,fig,body,R,hp,_⟩:=zbr h
  obtain⟨_,_,_,_,_,hx⟩:=R
  exact .inr (q33 hx hp h0)
theorem q31 {bs:List (List qu)} {t:qb} (hg:∀ b∈bs,qge b) (h:(z8 t).1=2):BegP (w7 bs++t):=by
 cases bs with
 |nil=>exact q32 h
 |cons b r=>
  refine .inr ?_
  rw [qc1,List.append_assoc]
  exact zam _ (hg b (by simp)).good
theorem q30 {x:qb} (h:BegP x):x=[]∨x.head? = some 37:=by
 rcases h with h|h
 ·exact .inl h
 ·simp only [begF,decide_eq_true_eq] at h
  cases x with
  |nil=>exact .inl rfl
  |cons c r=>
   refine .inr ?_
   have h1:=h.1
   unfold upto at h1
   by_cases hc:c=10
   ·subst hc;simp at h1
   ·simpa [hc] using h1
theorem qxi {l:qb} (h:jz l = .no):(∀ p∈zl l,begF p.1=false∧p.2=true)∧l.length≤60000:=by
 unfold jz at h
 split at h
 ·simp at h
 ·split at h
  ·rename_i hp
   exact⟨qzb hp,by omega⟩
  ·simp at h
theorem qvu {text:qb} {b:j5} (h:we text=(.no,b)):qag text b:=by
 unfold we at h
 split at h
 ·simp at h
 ·rename_i hlen
  split at h
  ·rename_i hp
   split at h
   ·simp at h
   ·rename_i hc
    simp only [Prod.mk.injEq,true_and] at h
    subst h
    have hs:=qjb text
    have hle:atH text≤(qc3 text).length:=(qlu _ _ _ (Nat.le_refl _) (Nat.le_refl _)).2
    have hrl:(qc3 text).length≤text.length:=by
     conv=>rhs;rw [hs.1]
     unfold qc3
     simp
    have hhl:text.length - (qc3 text).length=(wn (xm text).1).length:=by
     have:text.length=(wn (xm text).1).length+(qc3 text).length:=by
      conv=>lhs;rw [hs.1]
      unfold qc3
      simp
     omega
    have hq:qdk text=(false,(qdk text).2.1,(qdk text).2.2.1,(qdk text).2.2.2):=by
     have:(qdk text).1=false:=by simpa using hc
     rw [← this]
    obtain⟨bs,e1,e2,e3,e4,e5⟩:=qxo _ _ _ _ _ _ _ _ (by simp;omega) (show recsF (text.length+1) _ _ _ _=_ from hq)
    simp only [List.nil_append] at e2 e3
    have hbl:(qj2 text).length=atH text:=by unfold qj2;simp;omega
    have hrest:qc3 text=qj2 text++(w7 bs++(qdk text).2.2.2):=by
     rw [← e1]
     unfold qj2
     rw [List.take_append_drop]
    refine⟨?_,?_,hp,?_,e5,?_,by omega⟩
    ·simp only
     rw [e2,← hrest]
     exact hs.1
    ·simp only
     rw [e2,← hrest]
     rfl
    ·simp only
     rw [e2]
     exact e4
    ·simp only
     rw [e2,e3,hbl,hhl]
     simp
  ·rename_i hp
   simp only [Prod.mk.injEq] at h
   exact absurd h.1 hp
def x4 (b:j5):qb:=wn b.gen++(b.base++w7 b.batches)
def qa3 (b:j5):Int:=match b.ends.getLast? with
 |some e=>e
 |none=>((wn b.gen).length+b.base.length:Nat)
theorem qag.split {text:qb} {b:j5} (h:qag text b):text=x4 b++b.tail:=by
 have:=h.txt
 unfold x4
 simpa using this
theorem qag.whole {text:qb} {b:j5} (h:qag text b):qa3 b=((x4 b).length:Int):=by
 unfold qa3
 rw [h.ends]
 by_cases h0:b.batches=[]
 ·rw [h0]
  simp [qam,x4,h0,w7]
 ·rw [qqc _ _ h0]
  simp [x4]
  omega
theorem qag.take {text:qb} {b:j5} (h:qag text b):text.take (qa3 b).toNat=x4 b:=by
 rw [h.whole,Int.toNat_natCast]
 conv=>lhs;rw [h.split]
 rw [List.take_left]
theorem q16 {l:qb} (h:l≠[]) (hp:∀ p∈zl l,p.2=true):l.getLast? = some 10:=by
 have:∀ (k:Nat) (l:qb),l.length≤k→l≠[]→(∀ p∈zl l,p.2=true)→l.getLast? = some 10:=by
  intro k
  induction k with
  |zero=>intro l hl h0;exact absurd (List.length_eq_zero_iff.1 (by omega)) h0
  |succ k ih=>
   intro l hl h0 hp
   rw [v7 h0] at hp
   have h10:10∈l:=by simpa using hp _ (List.mem_cons_self ..)
   have e:=xw h10
   by_cases hq:past 10 l=[]
   ·rw [hq] at e
    rw [e]
    simp
   ·have:=ih (past 10 l) (by have:=wo (c:=10) h0;omega) hq fun p hp'=>hp p (by simp [hp'])
    rw [e]
    rw [List.getLast?_append,List.getLast?_cons,this]
    simp
 exact this _ l (Nat.le_refl _) h hp
theorem za8 {l x:qb} {n:Int} (h:∀ p∈zl l,p.2=true) (hx:x=[]∨x.head? = some 37) (hp:xk n <+: l++x):xk n <+: l:=by
 rcases qtx hp with h1 | ⟨r,h1,hr⟩
 ·exact h1
 ·by_cases hr0:r=[]
  ·rw [h1,hr0,List.append_nil]
   exact List.prefix_refl _
  ·exfalso
   obtain⟨c,q,rfl⟩:=List.exists_cons_of_ne_nil hr0
   have hc:c=37:=by
    obtain⟨t,ht⟩:=hr
    rcases hx with rfl|hx
    ·simp at ht
    ·rw [← ht] at hx
     simpa using hx
   subst hc
   by_cases hl:l=[]
   ·rw [hl] at h1
    simp [xk,genL] at h1
   ·have hlast:=q16 hl h
    obtain⟨q0,hq0⟩:∃ q0,l=q0++[10]:=by
     have:=qyw hlast
     exact⟨_,this.symm⟩
    have e:genL++Lib.itoa n++10::[10]=q0++10::(37::q):=by
     have:=h1
     unfold xk at this
     rw [hq0] at this
     simpa using this
    have hu10:10∉genL++Lib.itoa n:=by
     intro h
     rcases List.mem_append.1 h with h|h
     ·revert h;decide
     ·exact qkd n h
    have hA:=yp (c:=10) [10] hu10
    have hB:=qa7 (c:=10) [10] hu10
    rw [e] at hA hB
    by_cases hq10:10∈q0
    ·have e2:=xw hq10
     have e3:q0++10::(37::q)=upto 10 q0++10::(past 10 q0++10::(37::q)):=by
      conv=>lhs;rw [e2]
      simp
     rw [e3,qa7 _ (qaw 10 q0)] at hB
     have:=congrArg List.length hB
     simp at this
     omega
    ·rw [qa7 _ hq10] at hB
     simp at hB
theorem q3a {l x y:qb} (h:∀ p∈zl l,p.2=true) (hx:xm (l++x)=(0,l++x)) (hy:y=[]∨y.head? = some 37):xm (l++y)=(0,l++y):=by
 refine qt4 fun n r hg e=>?_
 obtain⟨t,ht⟩:=za8 (n:=n) h hy ⟨r,e.symm⟩
 have:xm (l++x)=(n,t++x):=by rw [← ht,List.append_assoc,qk5 hg]
 rw [hx] at this
 have h0:(0:Int)=n:=(Prod.mk.inj this).1
 have:=hg.1
 omega
theorem qag.gen0 {text:qb} {b:j5} (h:qag text b):b.gen=0∨y5 b.gen:=by
 have:=(qjb text).2
 rw [h.gen] at this
 exact this
theorem qag.other {text:qb} {b:j5} (h:qag text b) {bs:List (List qu)} {t:qb} (hg:∀ x∈bs,qge x) (ht:(z8 t).1=2) (hlen:(wn b.gen++(b.base++(w7 bs++t))).length≤120000) :
  qag (wn b.gen++(b.base++(w7 bs++t))) ⟨b.gen,b.base,bs,qam ((wn b.gen).length+b.base.length) bs,t⟩:=by
 refine⟨rfl,?_,h.parse,hg,ht,rfl,hlen⟩
 rcases h.gen0 with h0|h0
 ·have hgen:=h.gen
  have htext:=h.txt
  have e:wn b.gen=[]:=by unfold wn;rw [if_neg (by rw [h0];decide)]
  rw [e,List.nil_append] at htext ⊢
  rw [h0,htext] at hgen
  simp only
  rw [h0]
  exact q3a (fun p hp=>((qxi h.parse).1 p hp).2) hgen (q30 (q31 hg ht))
 ·have e:wn b.gen=xk b.gen:=by unfold wn;rw [if_pos h0]
  simp only
  rw [e,qk5 h0]
theorem q86:z8 []=(2,[],0):=by
 unfold z8 qdp
 rw [if_neg (by simp),if_pos]
 rw [if_neg (by decide)]
 decide
theorem qag.more {text:qb} {b:j5} (h:qag text b) {x:List qu} (hx:qge x) (hl:(x4 b++recE x).length≤120000):qag (x4 b++recE x) { b with batches:=b.batches++[x],ends:=b.ends++[qa3 b+(recE x).length],tail:=[] }:=by
 have e:wn b.gen++(b.base++(w7 (b.batches++[x])++[]))=x4 b++recE x:=by simp [x4,q2w]
 have:=h.other (bs:=b.batches++[x]) (t:=[]) (fun y hy=>by
  rcases List.mem_append.1 hy with hy|hy
  ·exact h.good y hy
  ·obtain rfl:=List.mem_singleton.1 hy
   exact hx) (by rw [q86]) (by rw [e];exact hl)
 rw [e,qqd,← h.ends] at this
 have hw:((wn b.gen).length+b.base.length+(w7 b.batches).length+(recE x).length:Int)=qa3 b+(recE x).length:=by
  rw [h.whole]
  simp [x4]
  omega
 rw [hw] at this
 exact this
def appF (text:qb) (x:List qu):ErrV×qb:=
 match (we text).1 with
 | .no=>match eErr x with
  | .no=>if 50000<(encF x).length then (.num 11,[]) else if 120000<qa3 (we text).2+(recE x).length then (.num 11,[]) else (.no,text.take (qa3 (we text).2).toNat++recE x)
  |e=>(e,[])
 |e=>(e,[])
end Go.Pl
namespace Go.Proofs.YtmoklbacdkmkaaaGreatDoor
open Go Go.Av Go.RowKit Go.Proofs Go.Pl
theorem qkb (n:Int) (st:List AObj) (h:y5 n):qm E 99 [Iv n] st fun r st'=>r = .tu [Sv (xk n),.v .nilIface]∧st'=st:=by
 have h1:=h.1
 have h2:=h.2
 have hl:=ql9 (v:=n) (by omega) (by omega)
 have hit:=fun st=>ql8 n st (by omega) (by omega)
 refine ze [.i n] (kg (qq _) (qq _)) Tryz.func99 rfl rfl (fun _=>rfl) rfl fun S0=>?_
 apply qd []
 repeat' (first|apply And.intro|(intro h;try exact cDd)|exact⟨Tryz.call155⟩|refine cpe hit ?_|exact cSd|apply qa []|refine exr ?_|refine qh ?_)
 all_goals first|(simp;omega)|(simp [xk,genL];done)
theorem qwk (n:Int) (st:List AObj) (h:¬ y5 n):qm E 99 [Iv n] st fun r st'=>r = .tu [Sv [],.ifc 76 (Iv 1)]∧st'=st:=by
 refine ze [.i n] (kg (qq _) (qbx (qq _))) Tryz.func99 rfl rfl (fun _=>rfl) rfl fun S0=>?_
 unfold y5 at h
 apply qd []
 repeat' (first|apply And.intro|(intro h;try exact cDd)|exact cSd|apply qa []|refine exr ?_|refine qh ?_)
theorem zc3 (n:Int) (st:List AObj):qm E 77 [Iv n] st fun r st'=>r=Iv ((wn n).length:Nat)∧st'=st:=by
 refine ze [.i n] (qq _) Tryz.func77 rfl rfl (fun _=>rfl) rfl fun S0=>?_
 by_cases hg:y5 n
 ·have e:wn n=xk n:=by unfold wn;rw [if_pos hg]
  have hln:=fun st=>qkb n st hg
  rw [e]
  apply qd []
  repeat' (first|apply And.intro|(intro h;try exact cDd)|exact⟨Tryz.call99⟩|refine cpe hln ?_|exact cSd|apply qa []|refine exr ?_|refine qh ?_)
 ·have e:wn n=[]:=by unfold wn;rw [if_neg hg]
  have hln:=fun st=>qwk n st hg
  rw [e]
  apply qd []
  repeat' (first|apply And.intro|(intro h;try exact cDd)|exact⟨Tryz.call99⟩|refine cpe hln ?_|exact cSd|apply qa []|refine exr ?_|refine qh ?_)
theorem q6k (l:qb) (st:List AObj):qm E 98 [Sv (genL++l),Sv [35,37,103,101,110,32]] st fun r st'=>r=Sv l∧st'=st:=by
 have:=qh6 (genL++l) [35,37,103,101,110,32] st
 rw [qb3 (show [35,37,103,101,110,32] <+: genL++l from List.prefix_append genL l)] at this
 have e:(genL++l).drop ([35,37,103,101,110,32]:qb).length=l:=by rw [show ([35,37,103,101,110,32]:qb).length=genL.length by rfl,List.drop_left]
 rw [e] at this
 exact this
set_option maxHeartbeats 2000000 in
theorem za9 (text:qb) (st:List AObj) (hl:text.length<1000000):qm E 56 [Sv text] st fun r st'=>r = .tu [Iv (xm text).1,Sv (xm text).2]∧st'=st:=by
 refine qy (kg (qq _) (qq _)) (qp Tryz.func56 rfl (Nat.le_of_ble_eq_true rfl) ?_)
 rcases qn6 text with⟨n,r,hg,he,ht⟩ | ⟨hno,ht⟩
 ·rw [ht]
  have hn10:10∉genL++Lib.itoa n:=fun h=>by
   rcases List.mem_append.1 h with h|h
   ·revert h;decide
   ·exact qkd n h
  have hcut:∀ st,qm E 96 [Sv text,Sv [10,10]] st fun x st'=>x = .tu [Sv (genL++Lib.itoa n),Sv r,Bv true]∧st'=st:=fun st=>by
   have:=qp5 text [10,10] st (by omega)
   rw [he,qkf,← List.append_assoc,zcu r hn10] at this
   rw [he,qkf,← List.append_assoc]
   exact this
  have hb:=ql9 (v:=n) (by have:=hg.1;omega) (by have:=hg.2;omega)
  have hgl:genL.length=6:=rfl
  have hat:=qpw (v:=n) (by have:=hg.1;omega) (by have:=hg.2;omega)
  repeat' (first|apply ql|apply qe|apply qf|apply qi|apply qg|(apply za;exact rfl;exact rfl)|(apply qk;exact Tryz.call96;exact hcut _)|(apply qk;exact Tryz.call98;exact q6k _ _))
  refine qdu Tryz.call97 ((qls (Lib.itoa n) _ (by omega)).mono ?_)
  rintro _ _ ⟨rfl,n',x,rfl,hx⟩
  rcases x with _ | ⟨t',y⟩
  ·simp only at hx
   rw [hat] at hx
   have e:n=n':=by simpa using hx
   subst e
   show AOps _ _ _ _ _ _ _
   have hs:xk n=(genL++Lib.itoa n)++[10,10]:=rfl
   have hs2:¬ xk n≠(genL++Lib.itoa n)++[10,10]:=fun h=>h hs
   repeat' (first|apply ql|apply qe|apply qf|apply qi|apply qg|(apply za;exact rfl;exact rfl)|(apply jo;(iterate 3 exact rfl))|(apply z6;exact rfl)|(apply qx;(iterate 4 exact rfl))|(apply qaq;exact cRa)|(apply qe5;exact cRa)|(apply qo;exact rfl;apply qfl;exact cRa)|(apply qo;exact rfl;apply pk_f;exact cRa)|(apply qc;exact rfl;apply vo;exact cAo)|(apply jt;exact rfl;exact rfl;exact cOs)|(apply vb;exact rfl;exact rfl)|apply qs|apply qt|(apply qk;exact Tryz.call99;exact qkb _ _ hg))
   exact qn rfl (wc rfl) ⟨rfl,_,rfl⟩
  ·exact absurd hat (hx n)
 ·rw [ht]
  have hfst:=qp6 text [10,10]
  have hct:=fun h=>q7l (l:=text) (m:=[10,10]) h
  have htr:=qdm (Lib.cut text [10,10]).1 [35,37,103,101,110,32]
  have hcc:=fun st=>qp5 text [10,10] st (by omega)
  generalize Lib.cut text [10,10]=c at hfst hct htr hcc
  obtain⟨a,b,d⟩:=c
  simp only at hfst hct htr hcc
  repeat' (first|apply ql|apply qe|apply qf|apply qi|apply qg|(apply za;exact rfl;exact rfl)|(apply qk;exact Tryz.call96;exact hcc _)|(apply qk;exact Tryz.call98;exact qh6 _ _ _))
  refine qdu Tryz.call97 ((qls (Lib.trimPrefix a [35,37,103,101,110,32]) _ (by omega)).mono ?_)
  rintro _ _ ⟨rfl,n,x,rfl,hx⟩
  show AOps _ _ _ _ _ _ _
  have hbad:¬ (d=true∧y5 n∧xk n=a++[10,10]):=fun ⟨h1,h2,h3⟩=>by
   refine hno n b h2 ?_
   rw [h3]
   exact hct h1
  by_cases hg:y5 n
  ·have hll:=qtm hg
   cases d with
   |false=>
    rcases x with _ | ⟨t',y⟩
    all_goals
     repeat' (first|apply ql|apply qe|apply qf|apply qi|apply qg|(apply za;exact rfl;exact rfl)|(apply z6;exact rfl)|(apply qx;(iterate 4 exact rfl))|(apply qcw;exact cRa)|(apply qar;exact cRa)|(apply qo;exact rfl;apply qkt;exact cRa)|(apply qo;exact rfl;apply pk_t;exact cRa)|(apply qc;exact rfl;apply cd_t;exact cRa)|apply qt|(apply qk;exact Tryz.call99;exact qkb _ _ hg))
     exact qn rfl (wc rfl) ⟨rfl,_,rfl⟩
   |true=>
    have hne:xk n≠a++[10,10]:=fun h=>hbad ⟨rfl,hg,h⟩
    rcases x with _ | ⟨t',y⟩
    all_goals
     repeat' (first|apply ql|apply qe|apply qf|apply qi|apply qg|(apply za;exact rfl;exact rfl)|(apply jo;(iterate 3 exact rfl))|(apply z6;exact rfl)|(apply qx;(iterate 4 exact rfl))|(apply qaq;exact cRa)|(apply qe5;exact cRa)|(apply qar;exact cRa)|(apply qo;exact rfl;apply qfl;exact cRa)|(apply qo;exact rfl;apply pk_t;exact cRa)|(apply qo;exact rfl;apply pk_f;exact cRa)|(apply qc;exact rfl;apply km;exact cAo)|(apply qc;exact rfl;apply cd_t;exact cRa)|(apply jt;exact rfl;exact rfl;exact cOs)|(apply vz;exact rfl;exact rfl)|(apply vb;exact rfl;exact rfl)|apply qt|(apply qk;exact Tryz.call99;exact qkb _ _ hg))
     exact qn rfl (wc rfl) ⟨rfl,_,rfl⟩
  ·cases d
   all_goals
    rcases x with _ | ⟨t',y⟩
    all_goals
     repeat' (first|apply ql|apply qe|apply qf|apply qi|apply qg|(apply za;exact rfl;exact rfl)|(apply z6;exact rfl)|(apply qx;(iterate 4 exact rfl))|(apply qaq;exact cRa)|(apply qcw;exact cRa)|(apply qe5;exact cRa)|(apply qar;exact cRa)|(apply qo;exact rfl;apply qkt;exact cRa)|(apply qo;exact rfl;apply qfl;exact cRa)|(apply qo;exact rfl;apply pk_t;exact cRa)|(apply qo;exact rfl;apply pk_f;exact cRa)|(apply qc;exact rfl;apply cd_t;exact cRa)|(apply vz;exact rfl;exact rfl)|(apply vb;exact rfl;exact rfl)|apply qt|(apply qk;exact Tryz.call99;exact qwk _ _ hg))
     exact qn rfl (wc rfl) ⟨rfl,_,rfl⟩
@[reducible] def qep (L : List LnV) : AV := .sl 1 (L.map fun x => Iv (qw x.text)) none
def qfm (L:List LnV):Nat→Bool
 | 0=>false
 |j+1=>match L[j]? with
  |some x=>decide (qw x.text=4∨qw x.text=3)
  |none=>false
theorem qiu {L:List LnV} {i:Nat} {x:LnV} (h:L[i]? = some x):(L.map fun x=>Iv (qw x.text))[i]? = some (Iv (qw x.text)):=by simp [h]
theorem qjo {L:List LnV} {i:Nat} {x:LnV} (h:L[i]? = some x):(L.map lnA)[i]? = some (lnA x):=by simp [h]
theorem qun (L:List LnV) (i:Nat) (st:List AObj) (hi:i≤L.length) (hL:L.length<1000000):qm E 180 [qep L,Iv i] st fun r st'=>r=Bv (qfm L i)∧st'=st:=by
 refine ze [.a (qep L),.i i] (qq _) Tryz.func180 rfl rfl (fun _=>rfl) rfl fun S0=>?_
 cases i with
 |zero=>
  apply qd []
  repeat' (first|apply And.intro|(intro h;try exact cDd)|exact cSd|apply qa []|refine exr ?_|refine qh ?_)
 |succ j=>
  obtain⟨x,hx⟩:∃ x,L[j]? = some x:=⟨_,List.getElem?_eq_getElem (by omega)⟩
  have hget:=qiu hx
  have hp:qfm L (j+1)=decide (qw x.text=4∨qw x.text=3):=by simp only [qfm,hx]
  rw [hp]
  apply qd []
  repeat' (first|apply And.intro|(intro h;try exact cDd)|(refine Exists.intro (j) ⟨by omega,_,hget,?_⟩)|exact cSd|apply qa []|refine exr ?_|refine qh ?_)
  all_goals (simp [*];done)
theorem qta {L:List LnV} {k:Nat} {x:LnV} (h:L[k]? = some x):(L.drop k).map qcg=(x.text,x.ended)::(L.drop (k+1)).map qcg:=by
 obtain⟨hlt,he⟩:=List.getElem?_eq_some_iff.1 h
 rw [List.drop_eq_getElem_cons hlt,he]
 rfl
def qfo (L:List LnV) (i:Nat) (x:LnV):List qb:=x.text::vg ((L.drop (i+1)).map qcg)
theorem qwx:∀ (r:List (qb×Bool)),(vg r).length≤r.length
 | []=>by simp [vg]
 |(t,e)::r=>by
  have:=qwx r
  rw [vg]
  split <;> simp <;> omega
theorem qwy:∀ {r:List (qb×Bool)} {n:Nat},(∀ p∈r,p.1.length≤n)→∀ s∈vg r,s.length≤n
 | [],_,_,s,hs=>by simp [vg] at hs
 |(t,e)::r,n,h,s,hs=>by
  rw [vg] at hs
  split at hs
  ·rcases List.mem_cons.1 hs with rfl|hs
   ·exact h (s,e) (by simp)
   ·exact qwy (fun p hp=>h p (by simp [hp])) s hs
  ·simp at hs
structure LnsB (L:List LnV):Prop where
 len:L.length<100000
 val:∀ x∈L,x.text.length<100000
theorem LnsB.said {L:List LnV} (h:LnsB L) {i:Nat} {x:LnV} (hx:L[i]? = some x):LsB (qfo L i x):=by
 have h1:=qwx ((L.drop (i+1)).map qcg)
 have h2:=h.len
 have h3:=h.val x (List.mem_of_getElem? hx)
 refine⟨?_,fun s hs=>?_⟩
 ·unfold qfo
  simp at h1 ⊢
  omega
 ·rcases List.mem_cons.1 hs with rfl|hs
  ·omega
  ·have:=qwy (n:=100000) (fun p hp=>by
    obtain⟨y,hy,rfl⟩:=List.mem_map.1 hp
    have:=h.val y (List.mem_of_mem_drop hy)
    simp only [qcg]
    omega) s hs
   omega
theorem qn3 (L:List LnV) (i:Nat) (x:LnV) (st:List AObj) (hL:LnsB L) (hx:L[i]? = some x):qm E 111 [lnsA L,qep L,Iv i] st fun r st'=>r=Ss (qfo L i x)∧st'=st:=by
 refine ze [.a (lnsA L),.a (qep L),.i i] (qjq _) Tryz.func111 rfl rfl (fun _=>rfl) rfl fun S0=>?_
 have hLl:=hL.len
 have hil:=lt_of_getElem? hx
 have hget:=qjo hx
 have hml:(L.map lnA).length=L.length:=by simp
 apply qd [14]
 repeat' (first|apply And.intro|(intro h;try exact cDd)|(refine Exists.intro (i) ⟨by omega,_,hget,?_⟩)|exact cSd|apply qa [14]|refine exr ?_|refine qh ?_)
 refine zq (X:=Nat×List qb) (fun (k,acc)=>⟨[(0,.a (lnsA L)),(1,.a (qep L)),(7,.tp 0),(8,.i k)],[(0,some (.tip 1 9 (acc.map fun x=>Sv x)))],1⟩) (fun (k,acc)=>i+1≤k∧k≤L.length∧acc++vg ((L.drop k).map qcg)=qfo L i x∧acc.length≤k) (fun (k,_)=>L.length - k) (i+1,[x.text]) ⟨by omega,by omega,rfl,by simp⟩ ?_ ?_
 ·skip
  repeat' (first|apply And.intro|(intro h;try exact cDd)|exact cSd|apply qa []|refine exr ?_|refine qh ?_)
  all_goals (simp;done)
 ·rintro⟨k,acc⟩ ⟨hk1,hk2,hacc,hal⟩
  have hmc:(acc.map fun x=>Sv x).length=acc.length:=by simp
  by_cases hk:k<L.length
  ·obtain⟨y,hy⟩:∃ y,L[k]? = some y:=⟨_,List.getElem?_eq_getElem hk⟩
   have hgy:=qjo hy
   have hky:=qiu hy
   rw [qta hy] at hacc
   by_cases h3:qw y.text=3
   ·rw [qfj h3] at hacc
    apply qd []
    repeat' (first|apply And.intro|(intro h;try exact cDd)|(refine Exists.intro (k) ⟨by omega,_,hgy,?_⟩)|(refine Exists.intro (k) ⟨by omega,_,hky,?_⟩)|(refine Exists.intro (k+1,acc++[y.text]) ⟨⟨by omega,by omega,by simpa using hacc,by simp;omega⟩,by simp only;omega,?_⟩)|exact cSd|apply qa []|refine exr ?_|refine qh ?_)
    all_goals (simp;done)
   ·rw [qkk h3,List.append_nil] at hacc
    rw [← hacc]
    apply qd []
    repeat' (first|apply And.intro|(intro h;try exact cDd)|(refine Exists.intro (k) ⟨by omega,_,hky,?_⟩)|exact cSd|apply qa []|refine exr ?_|refine qh ?_)
  ·rw [List.drop_eq_nil_of_le (by omega),List.map_nil,vg,List.append_nil] at hacc
   rw [← hacc]
   apply qd []
   repeat' (first|apply And.intro|(intro h;try exact cDd)|exact cSd|apply qa []|refine exr ?_|refine qh ?_)
theorem qxw (L:List LnV) (i:Nat) (x:LnV) (n:Nat) (rec:Int) (st:List AObj) (hL:LnsB L) (hx:L[i]? = some x):qm E 109 [lnsA L,qep L,Iv i,Iv n,Iv rec] st fun r st'=>r=Iv (wm (qfm L i) x.text x.ended ((L.drop (i+1)).map qcg) n rec)∧st'=st:=by
 refine ze [.a (lnsA L),.a (qep L),.i i,.i n,.i rec] (qq _) Tryz.func109 rfl rfl (fun _=>rfl) rfl fun S0=>?_
 have hLl:=hL.len
 have hil:=lt_of_getElem? hx
 have hgy:=qjo hx
 have hky:=qiu hx
 have hbe:=fun st=>qun L i st (by omega) (by omega)
 have hsa:=fun st=>qn3 L i x st hL hx
 have hun:=fun st=>qmk (qfo L i x) st (hL.said hx)
 unfold qby at hun
 unfold wm
 have hsd:x.text::vg ((L.drop (i+1)).map qcg)=qfo L i x:=rfl
 rw [hsd]
 generalize qfm L i=pv at *
 generalize qfo L i x=sl at *
 generalize (je sl).2=u at *
 obtain⟨xn,xa,xt,xe⟩:=x
 dsimp only at *
 apply qd []
 repeat' (first|apply And.intro|(intro h;try exact cDd)|(refine Exists.intro (i) ⟨by omega,_,hky,?_⟩)|(refine Exists.intro (i) ⟨by omega,_,hgy,?_⟩)|exact⟨Tryz.call180⟩|refine cpe hbe ?_|exact⟨Tryz.call111⟩|refine cpe hsa ?_|exact⟨Tryz.call110⟩|refine cpe hun ?_|exact cSd|apply qa []|refine exr ?_|refine qh ?_)
 all_goals clear hbe hsa hun hgy hky
 all_goals (simp_all <;> omega)
end Go.Proofs.YtmoklbacdkmkaaaGreatDoor
namespace Go.Pl
open Go Go.Proofs Go.Proofs.YtmoklbacdkmkaaaGreatDoor
theorem q2r (l:qb):(z8 l).1=1∨(z8 l).1=2∨(z8 l).1=3:=by
 unfold z8
 split
 ·split
  ·split
   ·unfold qd4
    split <;> simp
   ·split
    ·unfold qb8
     split
     ·simp
     ·split <;> simp
    ·simp
  ·simp
 ·split <;> simp
theorem q5r {l:qb} (h1:(z8 l).1=1):∃ k:Nat,(z8 l).2.2=(k:Int)∧0<k∧k≤l.length:=by
 obtain⟨_,m,hm,hn⟩:=qq9 (show z8 l=(1,(z8 l).2.1,(z8 l).2.2) by rw [← h1])
 refine⟨_,hn,?_,?_⟩
 ·rw [qm2]
  simp [recL,xh,zy]
 ·have:=congrArg List.length hm
  rw [List.length_append] at this
  omega
theorem qum {l:qb}:(z8 l).2.1.length≤l.length:=by
 have hp:=j9 10 l
 unfold z8
 split
 ·split
  ·split
   ·simp
   ·split
    ·unfold qb8
     split
     ·simp
     ·split
      ·simp;omega
      ·simp
    ·simp
  ·simp
 ·split <;> simp
theorem qvs (l:qb):ki l.length l≤l.length:=(qlu _ _ _ (Nat.le_refl _) (Nat.le_refl _)).2
theorem q2v {f:Nat} {l:qb} {a:Int} {bs:List (List qu)} {es:List Int} (h:(z8 l).1=2):recsF (f+1) l a bs es=(false,bs,es,l):=by
 rw [recsF,if_pos h]
theorem q5v {f:Nat} {l:qb} {a:Int} {bs:List (List qu)} {es:List Int} (h:(z8 l).1=3):recsF (f+1) l a bs es=(true,bs,es,l):=by
 rw [recsF,if_neg (by rw [h];decide),if_neg (by rw [h];decide)]
theorem q5u {f:Nat} {l:qb} {a:Int} {bs:List (List qu)} {es:List Int} (h:(z8 l).1=1) (hd:decF (z8 l).2.1=none):recsF (f+1) l a bs es=(true,bs,es,l):=by
 rw [recsF,if_neg (by rw [h];decide),if_pos h,hd]
theorem q2u {f k:Nat} {l:qb} {a:Int} {bs:List (List qu)} {es:List Int} {b:List qu} (h:(z8 l).1=1) (hd:decF (z8 l).2.1=some b) (hk:(z8 l).2.2=(k:Int)):recsF (f+1) l a bs es=recsF f (l.drop k) (a+k) (bs++[b]) (es++[a+k]):=by
 rw [recsF,if_neg (by rw [h];decide),if_pos h,hd,hk]
 rfl
end Go.Pl
namespace Go.Proofs.YtmoklbacdkmkaaaGreatDoor
open Go Go.Av Go.RowKit Go.Proofs Go.Pl
@[reducible] def ku (es : List Int) : AV := .sl 1 (es.map fun x => Iv x) none
@[reducible] def vw (bs : List (List qu)) : AV := .sl 1 (bs.map zj) none
@[reducible] def wz (b : j5) : AV := .ag [Iv b.gen, Sv b.base, vw b.batches, ku b.ends, Sv b.tail]
theorem zco (l:qb) (b:Bool) (st:List AObj) (hl:l.length<4294967281) (h:begF l=b):qm E 101 [Sv l] st fun r st'=>r=Bv b∧st'=st:=by
 subst h
 exact q7b l st hl
theorem q7a (text:qb) (st:List AObj) (hl:text.length<1000000):qm E 57 [Sv text] st fun r st'=>r=Iv ((ki text.length text:Nat):Int)∧st'=st:=by
 refine ze [.s text] (qq _) Tryz.func57 rfl rfl (fun _=>rfl) rfl fun S0=>?_
 apply qd []
 repeat' (first|apply And.intro|(intro h;try exact cDd)|exact⟨Tryz.call100⟩|(refine Exists.intro _ ⟨qk2 _,?_⟩)|exact cSd|apply qa []|refine exr ?_|refine qh ?_)
 refine qe9 (X:=Int) text 1 2 [0,1] (fun r=>⟨[(0,.s text),(2,.bx 0 0),(5,.fn (.func 163) [] [.bx 1 0])],[(0,some (.cells 3 [.i r])),(1,some (.cells 9 [.s text]))],2⟩) _
  (fun k rest r=>r=0∧rest.length≤text.length∧ki text.length text=ki text.length rest) (fun c r=>c = .ret∧r=((ki text.length text:Nat):Int)) 0 ⟨rfl,by omega,rfl⟩ ?_ id (by omega) (fun _=>rfl) rfl (fun _=>rfl) (fun _=>rfl) rfl ?_ ?_ ?_
 ·skip
  repeat' (first|apply And.intro|(intro h;try exact cDd)|exact cSd|apply qa []|refine exr ?_|refine qh ?_)
 ·rintro k rest r ⟨rfl,hrl,hbeg⟩ hne hle
  have hu:=j8 10 rest
  have hpl:=j9 10 rest
  have hbg:=fun st=>zco (upto 10 rest) _ st (by omega) rfl
  unfold qkg
  by_cases hb:begF (upto 10 rest)=true
  ·rw [hb] at hbg
   have hv:((text.length:Int) - rest.length)=((ki text.length text:Nat):Int):=by
    rw [hbeg,qpx hne hb]
    omega
   refine RA.mk fun S F ρ rd=>?_
   apply qd []
   repeat' (first|apply And.intro|(intro h;try exact cDd)|(refine RB.mk fun S rd=>?_;apply qd [])|exact⟨Tryz.call101⟩|refine cpe hbg ?_|(refine Exists.intro _ ⟨⟨rfl,hv⟩,?_⟩)|exact cSd|apply qa []|refine exr ?_|refine qh ?_)
  ·have hb':begF (upto 10 rest)=false:=by simpa using hb
   rw [hb'] at hbg
   refine RA.mk fun S F ρ rd=>?_
   apply qd []
   repeat' (first|apply And.intro|(intro h;try exact cDd)|(refine RB.mk fun S rd=>?_;apply qd [])|exact⟨Tryz.call101⟩|refine cpe hbg ?_|(refine Exists.intro 0 ⟨⟨rfl,by omega,by rw [hbeg,qsz hne (by rw [hb'];decide)]⟩,?_⟩)|exact cSd|apply qa []|refine exr ?_|refine qh ?_)
 ·rintro k r ⟨rfl,hrl,hbeg⟩
  rw [qj4] at hbeg
  rw [hbeg]
  repeat' (first|apply And.intro|(intro h;try exact cDd)|exact cSd|apply qa []|refine exr ?_|refine qh ?_)
 ·rintro c r ⟨rfl,rfl⟩
  repeat' (first|apply And.intro|(intro h;try exact cDd)|exact cSd|apply qa []|refine exr ?_|refine qh ?_)
theorem qa8 {a b c:AV} (h1:Pure a) (h2:Pure b) (h3:Pure c):Pure (.tu [a,b,c]):=qca fun z hz=>by
 simp only [List.mem_cons,List.not_mem_nil,or_false] at hz
 rcases hz with rfl|rfl|rfl
 ·exact h1
 ·exact h2
 ·exact h3
def qa0 (text:qb):AV:=if 60000<text.length then .tu [ji [],Iv (-9),Iv 1] else match (jv text).1 with
 |some e=>.tu [ji [],Iv e.1,Iv e.2]
 |none=>.tu [ji (jv text).2,Iv (-9),Iv 0]
theorem qsh (text:qb):Pure (qa0 text):=by
 unfold qa0
 split
 ·exact qa8 (yb _) (qq _) (qq _)
 ·split
  ·exact qa8 (yb _) (qq _) (qq _)
  ·exact qa8 (yb _) (qq _) (qq _)
theorem q2q {L:List LnV} {k:Nat} {x:LnV} (h:L[k]? = some x):qfm L (k+1)=decide (qw x.text=4∨qw x.text=3):=by simp only [qfm,h]
set_option maxHeartbeats 2000000 in
theorem qmj (text:qb) (st:List AObj) (hl:text.length<1000000):qm E 63 [Sv text] st fun r st'=>r=qa0 text∧st'=st:=by
 refine ze [.s text] (qsh text) Tryz.func63 rfl rfl (fun _=>rfl) rfl fun S0=>?_
 by_cases hbig:60000<text.length
 ·have e:qa0 text = .tu [ji [],Iv (-9),Iv 1]:=if_pos hbig
  rw [e]
  apply qd []
  repeat' (first|apply And.intro|(intro h;try exact cDd)|exact cSd|apply qa []|refine exr ?_|refine qh ?_)
 have hRA:qa0 text=match (jv text).1 with
  |some e=>.tu [ji [],Iv e.1,Iv e.2]
  |none=>.tu [ji (jv text).2,Iv (-9),Iv 0]:=if_neg hbig
 rw [hRA]
 clear hRA
 obtain⟨L,hL⟩:∃ L,L=lns text:=⟨_,rfl⟩
 have hLl:L.length≤text.length:=by rw [hL];exact qfz _ text 0 0 (Nat.le_refl _)
 have hLB:LnsB L:=⟨by omega,fun x hx=>by have:=q41 _ text 0 0 (Nat.le_refl _) x (by rw [hL] at hx;exact hx);omega⟩
 have hrun:refL 0 ((L.drop 0).map qcg) (qfm L 0) ⟨2,[],[]⟩ 0 []=jv text:=by
  rw [List.drop_zero,hL,q42]
  exact qi9 text
 have hml:(L.map lnA).length=L.length:=by simp
 have hspl:∀ st,qm E 61 [Sv text] st fun r st'=>r=lnsA L∧st'=st:=fun st=>by rw [hL];exact q22 text st (by omega)
 clear hL
 generalize jv text=PF at hrun
 apply qd []
 repeat' (first|apply And.intro|(intro h;try exact cDd)|exact⟨Tryz.call61⟩|refine cpe hspl ?_|exact cSd|apply qa []|refine exr ?_|refine qh ?_)
 refine zq (X:=Nat) (fun k=>⟨[(5,.a (lnsA L)),(6,.tp 0),(7,.i k)],[(0,some (.tip 1 3 ((L.take k).map fun x=>Iv (qw x.text))))],1⟩) (fun k=>k≤L.length) (fun k=>L.length - k) 0 (by omega) ?_ ?_
 ·skip
  repeat' (first|apply And.intro|(intro h;try exact cDd)|exact cSd|apply qa []|refine exr ?_|refine qh ?_)
 ·intro k hk
  by_cases hkl:k<L.length
  ·obtain⟨x,hx⟩:∃ x,L[k]? = some x:=⟨_,List.getElem?_eq_getElem hkl⟩
   have hgx:=qjo hx
   have hxl:=hLB.val x (List.mem_of_getElem? hx)
   have hkd:=fun st=>qf2 x.text st (by omega)
   apply qd []
   repeat' (first|apply And.intro|(intro h;try exact cDd)|(refine Exists.intro _ ⟨rfl,_,hgx,?_⟩)|exact⟨Tryz.call108⟩|refine cpe hkd ?_|(refine Exists.intro (k+1) ⟨by omega,by omega,?_⟩)|exact cSd|apply qa []|refine exr ?_|refine qh ?_)
   rw [List.take_add_one,hx]
   simp
  ·have e:L.take k=L:=List.take_of_length_le (by omega)
   apply qd []
   repeat' (first|apply And.intro|(intro h;try exact cDd)|exact cSd|apply qa []|refine exr ?_|refine qh ?_)
   refine zq (X:=Nat×zm×Int×List zm) (fun (k,⟨nk,nr,nf⟩,rec,out)=>⟨[(5,.a (lnsA L)),(6,.a (qep L)),(8,.tp 0),(9,.bx 1 0),(10,.i rec),(11,.i k)],
     [(0,some (.tip 3 137 (out.map z0))),(1,some (.cells 137 [.i nk,.s nr,.tp 2])),(2,some (.tip 2 156 (nf.map fldA)))],3⟩)
    (fun (k,now,rec,out)=>k≤L.length∧refL k ((L.drop k).map qcg) (qfm L k) now rec out=PF∧0≤rec∧rec≤k∧out.length≤2 * k∧now.fields.length≤k∧now.raw.length≤200000 * k) (fun x=>L.length - x.1) (0,⟨2,[],[]⟩,0,[])
    ⟨by omega,hrun,by omega,by omega,by simp,by simp,by simp⟩ ?_ ?_
   ·skip
    repeat' (first|apply And.intro|(intro h;try exact cDd)|(refine qh ?_;rw [e])|exact cSd|apply qa []|refine exr ?_|refine qh ?_)
   ·rintro⟨j,⟨nk,nr,nf⟩,rec,out⟩ ⟨hj,hR,hr0,hr1,hol,hfl,hrl⟩
    simp only at hfl hrl
    by_cases hjl:j<L.length
    ·obtain⟨x,hx⟩:∃ x,L[j]? = some x:=⟨_,List.getElem?_eq_getElem hjl⟩
     have hgx:=qjo hx
     have hkx:=qiu hx
     have hxl:=hLB.val x (List.mem_of_getElem? hx)
     have hwr:∀ st,qm E 109 [lnsA L,qep L,Iv j,Iv ((nf.map fldA).length:Nat),Iv rec] st fun r st'=>r=Iv (wm (qfm L j) x.text x.ended ((L.drop (j+1)).map qcg) nf.length rec)∧st'=st:=fun st=>by rw [List.length_map];exact qxw L j x nf.length rec st hLB hx
     have hsa:=fun st=>qn3 L j x st hLB hx
     have hun:=fun st=>qmk (qfo L j x) st (hLB.said hx)
     unfold qby at hun
     have hpv:=q2q hx
     have hsd:x.text::vg ((L.drop (j+1)).map qcg)=qfo L j x:=rfl
     rw [qta hx,refL,hsd] at hR
     simp only at hR
     by_cases h1:qw x.text=1
     ·apply qd []
      repeat' (first|apply And.intro|(intro h;try exact cDd)|(refine Exists.intro _ ⟨rfl,_,hgx,?_⟩)|(refine Exists.intro _ ⟨rfl,_,hkx,?_⟩)|exact⟨Tryz.call109⟩|refine cpe hwr ?_|exact⟨Tryz.call111⟩|refine cpe hsa ?_|exact⟨Tryz.call110⟩|refine cpe hun ?_|(rw [if_pos (by assumption)] at hR;rw [← hR];exact qm6 _)|(refine Exists.intro (j+1,⟨2,[],[]⟩,rec,outR ⟨nk,nr,nf⟩ out++[⟨1,x.text++[10],[]⟩]) ⟨?_,by simp only;omega,?_⟩)|exact cSd|apply qa []|refine exr ?_|refine qh ?_)
      all_goals first|grind [outR]|(simp [outR,z0, *] at hR ⊢;done)|(simp [outR,z0, *] at hR ⊢;omega)
     ·by_cases h4:qw x.text=4
      ·apply qd []
       repeat' (first|apply And.intro|(intro h;try exact cDd)|(refine Exists.intro _ ⟨rfl,_,hgx,?_⟩)|(refine Exists.intro _ ⟨rfl,_,hkx,?_⟩)|exact⟨Tryz.call109⟩|refine cpe hwr ?_|exact⟨Tryz.call111⟩|refine cpe hsa ?_|exact⟨Tryz.call110⟩|refine cpe hun ?_|(rw [if_pos (by assumption)] at hR;rw [← hR];exact qm6 _)|(refine Exists.intro (j+1,⟨3,nr++x.text++[10],nf++[(je (qfo L j x)).1]⟩,if nk=2 then rec+1 else rec,out) ⟨?_,by simp only;omega,?_⟩)|exact cSd|apply qa []|refine exr ?_|refine qh ?_)
       all_goals first|grind [outR]|(simp [outR,z0, *] at hR ⊢;done)|(simp [outR,z0, *] at hR ⊢;omega)
      ·apply qd []
       repeat' (first|apply And.intro|(intro h;try exact cDd)|(refine Exists.intro _ ⟨rfl,_,hgx,?_⟩)|(refine Exists.intro _ ⟨rfl,_,hkx,?_⟩)|exact⟨Tryz.call109⟩|refine cpe hwr ?_|exact⟨Tryz.call111⟩|refine cpe hsa ?_|exact⟨Tryz.call110⟩|refine cpe hun ?_|(rw [if_pos (by assumption)] at hR;rw [← hR];exact qm6 _)|(refine Exists.intro (j+1,⟨nk,nr++x.text++[10],nf⟩,rec,out) ⟨?_,by simp only;omega,?_⟩)|exact cSd|apply qa []|refine exr ?_|refine qh ?_)
       all_goals first|grind [outR]|(simp [outR,z0, *] at hR ⊢;done)|(simp [outR,z0, *] at hR ⊢;omega)
    ·have e:(L.drop j).map qcg=[]:=by rw [List.drop_eq_nil_of_le (by omega)];rfl
     rw [e,refL] at hR
     rw [← hR]
     apply qd []
     repeat' (first|apply And.intro|(intro h;try exact cDd)|exact cSd|apply qa []|refine exr ?_|refine qh ?_)
     all_goals first|grind [outR]|(simp [outR,z0, *] at hR ⊢;done)|(simp [outR,z0, *] at hR ⊢;omega)
theorem qv5 (b:List qu):qjw (zj b):=fun y hy=>by
 simp only [AV.cells,List.mem_cons,List.not_mem_nil,or_false] at hy
 subst hy
 exact qfg _
theorem quh (bs:List (List qu)):Pure (vw bs):=qaf fun x hx=>by
 obtain⟨b,_,rfl⟩:=List.mem_map.1 hx
 exact qv5 b
theorem qbu (es:List Int):Pure (ku es):=qaf fun x hx=>by
 obtain⟨b,_,rfl⟩:=List.mem_map.1 hx
 intro y hy
 simp only [AV.cells,List.mem_cons,List.not_mem_nil,or_false] at hy
 subst hy
 exact qq _
theorem qgl (b:j5):Pure (wz b):=qjr fun x hx=>by
 simp only [List.mem_cons,List.not_mem_nil,or_false] at hx
 rcases hx with rfl|rfl|rfl|rfl|rfl
 ·exact qq _
 ·exact qq _
 ·exact quh _
 ·exact qbu _
 ·exact qq _
def qlv (x:ErrV×j5):AV:=.tu [wz x.2,errA x.1]
theorem qyr (x:ErrV×j5):Pure (qlv x):=kg (qgl _) (kp _)
theorem qzp (text:qb) (st:List AObj) (hl:60000<text.length) (h2:text.length<1000000):qm E 58 [Sv text] st fun r st'=>r = .tu [ji [],errA (.num 1)]∧st'=st:=by
 refine ze [.s text] (kg (yb _) (kp _)) Tryz.func58 rfl rfl (fun _=>rfl) rfl fun S0=>?_
 apply qd []
 repeat' (first|apply And.intro|(intro h;try exact cDd)|exact cSd|apply qa []|refine exr ?_|refine qh ?_)
def itsE (text:qb):List zm:=if 60000<text.length then [] else (jv text).2
theorem qt3 (text:qb) (st:List AObj) (hl:text.length<1000000):qm E 58 [Sv text] st fun r st'=>r = .tu [ji (itsE text),errA (jz text)]∧st'=st:=by
 unfold jz itsE
 by_cases hb:60000<text.length
 ·rw [if_pos hb,if_pos hb]
  exact qzp text st hb hl
 ·rw [if_neg hb,if_neg hb]
  have:=qo1 text st (by omega)
  unfold qcq at this
  rcases hp:(jv text).1 with _ | ⟨x,y⟩
  ·rw [hp] at this
   exact this
  ·rw [hp] at this
   exact this
theorem qvv (gen:Int) (base text:qb) (a:Nat) (hl:text.length<1000000) (ha:a≤text.length) (r:SV) (hp1:List (Nat×Option SR)) (nx1:Nat) (R:Bool×List (List qu)×List Int×qb) (hR:Go.Pl.recsF (text.length+1) (text.drop a) a [] []=R)
  (hok:R.1=false→r = .a (.v .nilIface)∧hp1=[(0,some (.cells 26 [.i gen,.s base,.tp 1,.tp 2,.s R.2.2.2])),(1,some (.tip 1 55 (R.2.1.map zj))),(2,some (.tip 1 3 (R.2.2.1.map fun x=>Iv x)))]∧nx1=3)
  (hbad:R.1=true→r = .a (errA (.at' R.2.1.length 10))∧hp1=[]∧nx1=1):vk E 59 [.bx 0 0,.s text,.i a] 1 (hpF [(0,some (.cells 26 [.i gen,.s base,.a zh,.a zh,.s []]))]) ⟨r,vj [(0,some (.cells 26 [.i gen,.s base,.a zh,.a zh,.s []]))],hp1++vt [(0,some (.cells 26 [.i gen,.s base,.a zh,.a zh,.s []]))],nx1⟩:=by
 refine xc [.bx 0 0,.s text,.i a] [(0,some (.cells 26 [.i gen,.s base,.a zh,.a zh,.s []]))] 1 r hp1 nx1 Tryz.func59 rfl rfl rfl ?_ fun S F ρ=>?_
 ·cases h:R.1 with
  |false=>obtain⟨rfl,rfl,rfl⟩:=hok h;rfl
  |true=>obtain⟨rfl,rfl,rfl⟩:=hbad h;rfl
 apply qd []
 repeat' (first|apply And.intro|(intro h;try exact cDd)|exact cSd|apply qa []|refine exr ?_|refine qh ?_)
 refine zq (X:=Nat×Nat×List (List qu)×List Int) (fun (k,f,bs,es)=>⟨[(0,.bx 0 0),(1,.s text),(2,.i k)],[(0,some (.cells 26 [.i gen,.s base,.tp 1,.tp 2,.s []])),(1,some (.tip 1 55 (bs.map zj))),(2,some (.tip 1 3 (es.map fun x=>Iv x)))],3⟩)
  (fun (k,f,bs,es)=>k≤text.length∧text.length - k<f∧Go.Pl.recsF f (text.drop k) k bs es=R∧bs.length≤k∧es.length≤k) (fun x=>text.length - x.1) (a,text.length+1,[],[]) ⟨ha,by omega,hR,by simp,by simp⟩ ?_ ?_
 ·skip
  repeat' (first|apply And.intro|(intro h;try exact cDd)|exact cSd|apply qa []|refine exr ?_|refine qh ?_)
 ·rintro⟨k,f,bs,es⟩ ⟨hk,hf,hR,hbl,hel⟩
  obtain⟨f,rfl⟩:∃ f',f=f'+1:=⟨f - 1,by omega⟩
  have hrd:=fun st=>zdq (text.drop k) st (by simp;omega)
  have hll:(text.drop k).length=text.length - k:=by simp
  have hbd:=qum (l:=text.drop k)
  have hde:=fun st=>q7n (z8 (text.drop k)).2.1 st (by omega)
  rcases q2r (text.drop k) with h1|h2|h3
  ·rw [h1] at hrd
   obtain⟨n',hn',hn0',hnl⟩:=q5r h1
   cases hdd:decF (z8 (text.drop k)).2.1 with
   |none=>
    rw [q5u h1 hdd] at hR
    rw [hdd] at hde
    subst hR
    obtain⟨rfl,rfl,rfl⟩:=hbad rfl
    apply qd []
    repeat' (first|apply And.intro|(intro h;try exact cDd)|exact⟨Tryz.call104⟩|refine cpe hrd ?_|exact⟨Tryz.call105⟩|refine cpe hde ?_|exact cSd|apply qa []|refine exr ?_|refine qh ?_)
    rw [List.length_map]
    rfl
   |some b=>
    rw [q2u h1 hdd hn'] at hR
    rw [hdd] at hde
    rw [hn'] at hrd
    apply qd []
    repeat' (first|apply And.intro|(intro h;try exact cDd)|exact⟨Tryz.call104⟩|refine cpe hrd ?_|exact⟨Tryz.call105⟩|refine cpe hde ?_|(refine Exists.intro (k+n',f,bs++[b],es++[((k+n':Nat):Int)]) ⟨?_,by simp only;omega,?_⟩)|exact cSd|apply qa []|refine exr ?_|refine qh ?_)
    all_goals first|(rw [← hR,Int.natCast_add,List.drop_drop];done)|(simp;done)
  ·rw [h2] at hrd
   rw [q2v h2] at hR
   subst hR
   obtain⟨rfl,rfl,rfl⟩:=hok rfl
   cases hdd:decF (z8 (text.drop k)).2.1 <;> rw [hdd] at hde
   all_goals
    apply qd []
    repeat' (first|apply And.intro|(intro h;try exact cDd)|exact⟨Tryz.call104⟩|refine cpe hrd ?_|exact⟨Tryz.call105⟩|refine cpe hde ?_|exact cSd|apply qa []|refine exr ?_|refine qh ?_)
  ·rw [h3] at hrd
   rw [q5v h3] at hR
   subst hR
   obtain⟨rfl,rfl,rfl⟩:=hbad rfl
   cases hdd:decF (z8 (text.drop k)).2.1 <;> rw [hdd] at hde
   all_goals
    apply qd []
    repeat' (first|apply And.intro|(intro h;try exact cDd)|exact⟨Tryz.call104⟩|refine cpe hrd ?_|exact⟨Tryz.call105⟩|refine cpe hde ?_|exact cSd|apply qa []|refine exr ?_|refine qh ?_)
   all_goals
    rw [List.length_map]
    rfl
theorem qz2 (text:qb) (st:List AObj) (hl:text.length<1000000):qm E 19 [Sv text] st fun r st'=>r=qlv (we text)∧st'=st:=by
 refine ze [.s text] (qyr _) Tryz.func19 rfl rfl (fun _=>rfl) rfl fun S0=>?_
 by_cases hbig:120000<text.length
 ·have e:we text=(.num 1,qff):=if_pos hbig
  rw [e]
  apply qd []
  repeat' (first|apply And.intro|(intro h;try exact cDd)|exact cSd|apply qa []|refine exr ?_|refine qh ?_)
 have hsp:=qjb text
 have hrl:(xm text).2.length≤text.length:=by
  conv=>rhs;rw [hsp.1]
  simp
 have hbl:=qvs (xm text).2
 obtain⟨g,rest,htk⟩:∃ g rest,xm text=(g,rest):=⟨_,_,rfl⟩
 have hF:we text=match jz (rest.take (ki rest.length rest)) with
   | .no=>if (Go.Pl.recsF (text.length+1) (rest.drop (ki rest.length rest)) (((text.length - rest.length+ki rest.length rest:Nat)):Int) [] []).1=true then (.at' (Go.Pl.recsF (text.length+1) (rest.drop (ki rest.length rest)) (((text.length - rest.length+ki rest.length rest:Nat)):Int) [] []).2.1.length 10,qff)
    else (.no,⟨g,rest.take (ki rest.length rest),(Go.Pl.recsF (text.length+1) (rest.drop (ki rest.length rest)) (((text.length - rest.length+ki rest.length rest:Nat)):Int) [] []).2.1,(Go.Pl.recsF (text.length+1) (rest.drop (ki rest.length rest)) (((text.length - rest.length+ki rest.length rest:Nat)):Int) [] []).2.2.1,(Go.Pl.recsF (text.length+1) (rest.drop (ki rest.length rest)) (((text.length - rest.length+ki rest.length rest:Nat)):Int) [] []).2.2.2⟩)
   |e=>(e,qff):=by
  unfold we
  rw [if_neg hbig]
  unfold qdk qj2 atH qc3
  rw [htk]
  try rfl
 have htk2:∀ st,qm E 56 [Sv text] st fun r st'=>r = .tu [Iv g,Sv rest]∧st'=st:=fun st=>by
  have:=za9 text st hl
  rw [htk] at this
  exact this
 rw [htk] at hrl hbl hsp
 simp only at hrl hbl hsp
 have hdr:rest.drop (ki rest.length rest)=text.drop (text.length - rest.length+ki rest.length rest):=by
  have h1:text.length=(wn g).length+rest.length:=by
   have:=congrArg List.length hsp.1
   simpa using this
  conv=>rhs;rhs;rw [hsp.1]
  rw [← List.drop_drop,show text.length - rest.length=(wn g).length by omega,List.drop_left]
 rw [hdr] at hF
 clear hdr hsp htk
 have hbg:=fun st=>q7a rest st (by omega)
 generalize ki rest.length rest=a at hF hbl hbg
 have hpa:=fun st=>qt3 (rest.take a) st (by simp;omega)
 have hsub:((text.length:Int) - (rest.length:Int))+(a:Int)=((text.length - rest.length+a:Nat):Int):=by omega
 rw [show (((text.length - rest.length+a:Nat)):Int)=(((text.length - rest.length+a:Nat)):Int) from rfl] at hF
 obtain⟨R,hR⟩:∃ R,Go.Pl.recsF (text.length+1) (text.drop (text.length - rest.length+a)) ((text.length - rest.length+a:Nat):Int) [] []=R:=⟨_,rfl⟩
 rw [hR] at hF
 have hok:=fun h=>qvv g (rest.take a) text (text.length - rest.length+a) hl (by omega) (.a (.v .nilIface)) [(0,some (.cells 26 [.i g,.s (rest.take a),.tp 1,.tp 2,.s R.2.2.2])),(1,some (.tip 1 55 (R.2.1.map zj))),(2,some (.tip 1 3 (R.2.2.1.map fun x=>Iv x)))] 3 R hR (fun _=>⟨rfl,rfl,rfl⟩) h
 have hbad:=fun h=>qvv g (rest.take a) text (text.length - rest.length+a) hl (by omega) (.a (errA (.at' R.2.1.length 10))) [] 1 R hR h (fun _=>⟨rfl,rfl,rfl⟩)
 generalize itsE (rest.take a)=its at hpa
 cases hpe:jz (rest.take a) with
 |no=>
  rw [hpe] at hF hpa
  simp only at hF
  by_cases hR1:R.1=true
  ·rw [if_pos hR1] at hF
   rw [hF]
   apply qd []
   repeat' (first|apply And.intro|(intro h;try exact cDd)|exact⟨Tryz.call56⟩|refine cpe htk2 ?_|exact⟨Tryz.call57⟩|refine cpe hbg ?_|exact⟨Tryz.call58⟩|refine cpe hpa ?_|exact⟨Tryz.call59⟩|(refine jj (hbad fun h=>by rw [hR1] at h;simp at h) ?_)|exact cSd|apply qa []|refine exr ?_|refine qh ?_)
   all_goals exact congrArg Iv hsub
  ·rw [if_neg hR1] at hF
   rw [hF]
   apply qd []
   repeat' (first|apply And.intro|(intro h;try exact cDd)|exact⟨Tryz.call56⟩|refine cpe htk2 ?_|exact⟨Tryz.call57⟩|refine cpe hbg ?_|exact⟨Tryz.call58⟩|refine cpe hpa ?_|exact⟨Tryz.call59⟩|(refine jj (hok fun h=>absurd h hR1) ?_)|exact cSd|apply qa []|refine exr ?_|refine qh ?_)
   all_goals exact congrArg Iv hsub
 |num n=>
  rw [hpe] at hF hpa
  have hF2:we text=(.num n,qff):=hF
  rw [hF2]
  apply qd []
  repeat' (first|apply And.intro|(intro h;try exact cDd)|exact⟨Tryz.call56⟩|refine cpe htk2 ?_|exact⟨Tryz.call57⟩|refine cpe hbg ?_|exact⟨Tryz.call58⟩|refine cpe hpa ?_|exact cSd|apply qa []|refine exr ?_|refine qh ?_)
 |at' p n=>
  rw [hpe] at hF hpa
  have hF2:we text=(.at' p n,qff):=hF
  rw [hF2]
  apply qd []
  repeat' (first|apply And.intro|(intro h;try exact cDd)|exact⟨Tryz.call56⟩|refine cpe htk2 ?_|exact⟨Tryz.call57⟩|refine cpe hbg ?_|exact⟨Tryz.call58⟩|refine cpe hpa ?_|exact cSd|apply qa []|refine exr ?_|refine qh ?_)
theorem q75 (n:Int):(wn n).length≤100:=by
 unfold wn
 split
 ·rename_i h
  have:=qtm h
  omega
 ·simp
theorem q7f (b:j5) (st:List AObj) (hb:b.base.length<1000000) (he:b.ends.length<1000000):qm E 29 [wz b] st fun r st'=>r=Iv (qa3 b)∧st'=st:=by
 have hh:=q75 b.gen
 have hle:=fun st=>zc3 b.gen st
 refine ze [.a (wz b)] (qq _) Tryz.func29 rfl rfl (fun _=>rfl) rfl fun S0=>?_
 by_cases h0:b.ends=[]
 ·have e:qa3 b=((wn b.gen).length:Int)+(b.base.length:Int):=by simp [qa3,h0]
  rw [e]
  have hl0:(b.ends.map fun x=>Iv x).length=0:=by simp [h0]
  apply qd []
  repeat' (first|apply And.intro|(intro h;try exact cDd)|exact⟨Tryz.call77⟩|refine cpe hle ?_|exact cSd|apply qa []|refine exr ?_|refine qh ?_)
 ·obtain⟨x,hx⟩:∃ x,b.ends.getLast? = some x:=by
   cases h:b.ends.getLast? with
   |none=>exact absurd (List.getLast?_eq_none_iff.1 h) h0
   |some x=>exact⟨x,rfl⟩
  have e:qa3 b=x:=by simp [qa3,hx]
  rw [e]
  have hl0:0<b.ends.length:=List.length_pos_iff.2 h0
  have hml:(b.ends.map fun x=>Iv x).length=b.ends.length:=by simp
  have hg:(b.ends.map fun x=>Iv x)[b.ends.length - 1]? = some (Iv x):=by
   rw [List.getLast?_eq_getElem?] at hx
   simp [hx]
  apply qd []
  repeat' (first|apply And.intro|(intro h;try exact cDd)|exact⟨Tryz.call77⟩|refine cpe hle ?_|(refine Exists.intro (b.ends.length - 1) ⟨by omega,_,hg,?_⟩)|exact cSd|apply qa []|refine exr ?_|refine qh ?_)
theorem qtz:∀ r:List (List qu),r.length≤(w7 r).length
 | []=>by simp [w7]
 |b::r=>by
  have:=qtz r
  have h1:=qxm b
  rw [qc1]
  simp
  omega
structure zd2 (text:qb) (b:j5):Prop where
 base:b.base.length<1000000
 tail:b.tail.length<1000000
 ends : b.ends.length < 1000000
 whole:qa3 b=((x4 b).length:Int)
 wlen:(x4 b).length≤text.length
 size:qa3 b+b.tail.length=text.length
theorem qys {text:qb} {b:j5} (h:qag text b):zd2 text b:=by
 have h1:=congrArg List.length h.split
 have h2:=h.len
 have h3:=qtz b.batches
 have h4:=h.whole
 simp only [List.length_append,x4] at h1
 refine⟨by omega,by omega,by rw [h.ends,ql0];omega,h4,by simp only [x4,List.length_append];omega,?_⟩
 rw [h4]
 simp only [x4,List.length_append]
 omega
theorem zcn (text:qb) (x:List qu) (st:List AObj) (hl:text.length<1000000) (hB:∀ y∈x,EdB y) (hx:x.length<1000000):qm E 28 [Sv text,zj x] st fun r st'=>r = .tu [Sv (Go.Pl.appF text x).2,errA (Go.Pl.appF text x).1]∧st'=st:=by
 refine ze [.s text,.a (zj x)] (kg (qq _) (kp _)) Tryz.func28 rfl rfl (fun _=>rfl) rfl fun S0=>?_
 have hbr:=fun st=>qz2 text st hl
 unfold Go.Pl.appF
 have hbk:we text=((we text).1,(we text).2):=rfl
 cases hbe:(we text).1 with
 |no=>
  rw [hbe] at hbk
  have hT:=qvu hbk
  have hS:=qys hT
  obtain⟨hs1,hs2,hs3,hs4,hs5,hs6⟩:=hS
  rw [hbk] at hbr
  generalize (we text).2=b at hbr hT hs1 hs2 hs3 hs4 hs5 hs6
  unfold qlv at hbr
  have hwh:=fun st=>q7f b st hs1 hs3
  rw [hs4] at hwh
  simp only [hs4,Int.toNat_natCast]
  have htl:=hT.len
  cases hee:eErr x with
  |no=>
   have hen:=fun st=>qtb x st hB hee
   by_cases h5:50000<(encF x).length
   ·simp only [if_pos h5]
    apply qd []
    repeat' (first|apply And.intro|(intro h;try exact cDd)|exact⟨Tryz.call19⟩|refine cpe hbr ?_|exact⟨Tryz.call75⟩|refine cpe hen ?_|exact cSd|apply qa []|refine exr ?_|refine qh ?_)
   ·simp only [if_neg h5]
    have hgx:qge x:=⟨hee,hB,by omega⟩
    have hrc:=fun st=>q5t (encF x) st (by omega) hgx.good
    have hrl:=q2s hgx.good
    have hre:recF (encF x)=recE x:=rfl
    rw [hre] at hrc hrl
    by_cases h12:(120000:Int)<((x4 b).length:Int)+((recE x).length:Int)
    ·rw [if_pos h12]
     apply qd []
     repeat' (first|apply And.intro|(intro h;try exact cDd)|exact⟨Tryz.call19⟩|refine cpe hbr ?_|exact⟨Tryz.call75⟩|refine cpe hen ?_|exact⟨Tryz.call76⟩|refine cpe hrc ?_|exact⟨Tryz.call29⟩|refine cpe hwh ?_|exact cSd|apply qa []|refine exr ?_|refine qh ?_)
    ·rw [if_neg h12]
     apply qd []
     repeat' (first|apply And.intro|(intro h;try exact cDd)|exact⟨Tryz.call19⟩|refine cpe hbr ?_|exact⟨Tryz.call75⟩|refine cpe hen ?_|exact⟨Tryz.call76⟩|refine cpe hrc ?_|exact⟨Tryz.call29⟩|refine cpe hwh ?_|exact cSd|apply qa []|refine exr ?_|refine qh ?_)
  |num n=>
   have hen:=fun st=>qim x st _ hB (by omega) hee (fun h=>by have:=(qdy x).1 (by rw [hee];exact h);rw [hee] at this;simp at this)
   apply qd []
   repeat' (first|apply And.intro|(intro h;try exact cDd)|exact⟨Tryz.call19⟩|refine cpe hbr ?_|exact⟨Tryz.call75⟩|refine cpe hen ?_|exact cSd|apply qa []|refine exr ?_|refine qh ?_)
  |at' p n=>
   have hen:=fun st=>qim x st _ hB (by omega) hee (fun h=>by have:=(qdy x).1 (by rw [hee];exact h);rw [hee] at this;simp at this)
   apply qd []
   repeat' (first|apply And.intro|(intro h;try exact cDd)|exact⟨Tryz.call19⟩|refine cpe hbr ?_|exact⟨Tryz.call75⟩|refine cpe hen ?_|exact cSd|apply qa []|refine exr ?_|refine qh ?_)
 |num n=>
  rw [hbe] at hbk
  rw [hbk] at hbr
  unfold qlv at hbr
  apply qd []
  repeat' (first|apply And.intro|(intro h;try exact cDd)|exact⟨Tryz.call19⟩|refine cpe hbr ?_|exact cSd|apply qa []|refine exr ?_|refine qh ?_)
 |at' p n=>
  rw [hbe] at hbk
  rw [hbk] at hbr
  unfold qlv at hbr
  apply qd []
  repeat' (first|apply And.intro|(intro h;try exact cDd)|exact⟨Tryz.call19⟩|refine cpe hbr ?_|exact cSd|apply qa []|refine exr ?_|refine qh ?_)
theorem qxv (text:qb):∃ its,qa0 text = .tu [ji its,Iv (jz text).pos,Iv (jz text).code]:=by
 unfold qa0 jz
 split
 ·exact⟨[],rfl⟩
 ·rcases (jv text).1 with _ | ⟨a,n⟩
  ·exact⟨_,rfl⟩
  ·exact⟨[],rfl⟩
theorem qkx:∀ (r:List (qb×Bool)) (i:Nat) (prev:Bool) (now:zm) (rec:Int) (out:List zm) (e:Int×Int),(refL i r prev now rec out).1=some e→e.2≠0
 | [],i,prev,now,rec,out,e,h=>by simp [refL] at h
 |(t,b)::r,i,prev,now,rec,out,e,h=>by
  rw [refL] at h
  split at h
  ·rename_i hw
   simp only [Option.some.injEq] at h
   subst h
   exact hw
  ·split at h
   ·exact qkx r _ _ _ _ _ e h
   ·split at h
    ·exact qkx r _ _ _ _ _ e h
    ·exact qkx r _ _ _ _ _ e h
theorem qq5 {text:qb} {n:Int} (h:jz text = .num n):n=1:=by
 unfold jz at h
 split at h
 ·simpa using h.symm
 ·split at h <;> simp at h
theorem qtq {text:qb} {a n:Int} (h:jz text = .at' a n):n≠0:=by
 unfold jz at h
 split at h
 ·simp at h
 ·split at h
  ·simp at h
  ·rename_i a' n' hp
   simp only [ErrV.at'.injEq] at h
   rw [← h.2]
   have:=qi9 text
   exact qkx _ _ _ _ _ _ (a',n') (by rw [this];exact hp)
theorem qt0 (text:qb) (hl:text.length<1000000):∃ its p n,(∀ st,qm E 63 [Sv text] st fun r st'=>r = .tu [ji its,Iv p,Iv n]∧st'=st)∧p=(jz text).pos∧n=(jz text).code∧(n=0↔jz text = .no):=by
 obtain⟨its,hits⟩:=qxv text
 refine⟨its,_,_,fun st=>by rw [← hits];exact qmj text st hl,rfl,rfl,?_⟩
 cases hpe:jz text with
 |no=>simp [ErrV.code]
 |num n=>have:=qq5 hpe;simp [ErrV.code];omega
 |at' a n=>have:=qtq hpe;simp [ErrV.code];omega
theorem za1 (x:List qu):∃ p n,(eErr x).pos=p∧(eErr x).code=n∧(n=0↔eErr x = .no):=⟨_,_,rfl,rfl,qdy x⟩
theorem zc6 (a b:List Int) (st:List AObj) (ha:a.length<1000000):qm E 37 [ku a,ku b] st fun r st'=>r=Bv (decide (a=b))∧st'=st:=by
 refine ze [.a (ku a),.a (ku b)] (qq _) Tryz.func37 rfl rfl (fun _=>rfl) rfl fun S0=>?_
 have hma:(a.map fun x=>Iv x).length=a.length:=by simp
 have hmb:(b.map fun x=>Iv x).length=b.length:=by simp
 by_cases hl:a.length=b.length
 ·apply qd []
  repeat' (first|apply And.intro|(intro h;try exact cDd)|exact cSd|apply qa []|refine exr ?_|refine qh ?_)
  refine zq (X:=Nat) (fun k=>⟨[(0,.a (ku a)),(1,.a (ku b)),(12,.i a.length),(13,.i k)],[],0⟩) (fun k=>k≤a.length∧a.take k=b.take k) (fun k=>a.length - k) 0 ⟨by omega,by simp⟩ ?_ ?_
  ·skip
   repeat' (first|apply And.intro|(intro h;try exact cDd)|exact cSd|apply qa []|refine exr ?_|refine qh ?_)
   all_goals first|(simp;done)
  ·rintro k ⟨hk,ht⟩
   by_cases hc:k<a.length
   ·have hga:(a.map fun x=>Iv x)[k]? = some (Iv a[k]):=by simp [hc]
    have hgb:(b.map fun x=>Iv x)[k]? = some (Iv (b[k]'(by omega))):=by simp [show k<b.length by omega]
    apply qd []
    repeat' (first|apply And.intro|(intro h;try exact cDd)|(refine Exists.intro (k) ⟨by omega,_,hga,?_⟩)|(refine Exists.intro (k) ⟨by omega,_,hgb,?_⟩)|(refine Exists.intro (k+1) ⟨⟨by omega,?_⟩,by omega,?_⟩)|exact cSd|apply qa []|refine exr ?_|refine qh ?_)
    ·have hab:a≠b:=fun e=>by subst e;simp at *
     simp [hab]
    ·refine qcr (d:=0) hl hc ht ?_
     simp [List.getD,hc,show k<b.length by omega]
     try omega
   ·apply qd []
    repeat' (first|apply And.intro|(intro h;try exact cDd)|exact cSd|apply qa []|refine exr ?_|refine qh ?_)
    have hab:a=b:=by
     rw [List.take_of_length_le (by omega),List.take_of_length_le (by omega)] at ht
     exact ht
    simp [hab]
 ·apply qd []
  repeat' (first|apply And.intro|(intro h;try exact cDd)|exact cSd|apply qa []|refine exr ?_|refine qh ?_)
  all_goals
   have hab:a≠b:=fun e=>hl (by rw [e])
   simp [hab]
def qgu:List Fld→Int→Int→Bool
 | [],_,_=>false
 |f::r,i,n=>if 60<i∨6000<n+(min (f.1.length:Int) 10000+min (f.2.length:Int) 10000) then true else qgu r (i+1) (n+(min (f.1.length:Int) 10000+min (f.2.length:Int) 10000))
def qat:List qu→Int→Bool
 | [],_=>false
 |x::r,i=>if 50<i then true else if qgu x.fields 0 0=true then true else qat r (i+1)
theorem qqu:∀ (fs:List Fld) (i n:Int),0≤n→n≤6000→0≤i→qgu fs i n=false→fs.length≤(61 - i).toNat∧∀ f∈fs,f.1.length≤6000∧f.2.length≤6000
 | [],i,n,_,_,_,_=>by simp
 |f::r,i,n,h0,h1,h2,h=>by
  rw [qgu] at h
  split at h
  ·simp at h
  ·obtain⟨g1,g2⟩:=qqu r _ _ (by omega) (by omega) (by omega) h
   simp only [List.length_cons]
   refine⟨by omega,fun g hg=>?_⟩
   rcases List.mem_cons.1 hg with rfl|hg
   ·omega
   ·exact g2 g hg
theorem qnu:∀ (b:List qu) (i:Int),0≤i→qat b i=false→b.length≤(51 - i).toNat∧∀ x∈b,q9w x.fields
 | [],_,_,_=>by simp
 |x::r,i,h0,h=>by
  rw [qat] at h
  split at h
  ·simp at h
  ·split at h
   ·simp at h
   ·rename_i hm
    obtain⟨g1,g2⟩:=qnu r _ (by omega) h
    simp only [List.length_cons]
    refine⟨by omega,fun y hy=>?_⟩
    rcases List.mem_cons.1 hy with rfl|hy
    ·obtain⟨k1,k2⟩:=qqu y.fields 0 0 (by omega) (by omega) (by omega) (by simpa using hm)
     exact⟨by omega,fun f hf=>by have:=k2 f hf;omega⟩
    ·exact g2 y hy
theorem qwj {b:List qu} (h:qat b 0=false):qpd b:=by
 obtain⟨h1,h2⟩:=qnu b 0 (by omega) h
 exact⟨by omega,h2⟩
theorem zbp (fs:List Fld) (st:List AObj) (hf:fs.length<9223372036854775808):qm E 70 [zz fs] st fun r st'=>r=Bv (qgu fs 0 0)∧st'=st:=by
 refine ze [.a (zz fs)] (qq _) Tryz.func70 rfl rfl (fun _=>rfl) rfl fun S0=>?_
 have hm:(fs.map fldA).length=fs.length:=by simp
 apply qd []
 repeat' (first|apply And.intro|(intro h;try exact cDd)|exact cSd|apply qa []|refine exr ?_|refine qh ?_)
 refine zq (X:=Nat×Int) (fun (k,n)=>⟨[(3,.i n),(6,.a (zz fs)),(7,.i fs.length),(8,.i k)],[],0⟩) (fun (k,n)=>k≤fs.length∧k≤61∧0≤n∧n≤6000∧qgu (fs.drop k) k n=qgu fs 0 0) (fun x=>fs.length - x.1) (0,0) ⟨by omega,by omega,by omega,by omega,rfl⟩ ?_ ?_
 ·skip
  repeat' (first|apply And.intro|(intro h;try exact cDd)|exact cSd|apply qa []|refine exr ?_|refine qh ?_)
  all_goals first|(simp;done)
 ·rintro⟨k,n⟩ ⟨hk,hk2,h0,h1,h⟩
  by_cases hc:k<fs.length
  ·obtain⟨f,hx⟩:∃ f,fs[k]? = some f:=⟨_,List.getElem?_eq_getElem hc⟩
   have hg:(fs.map fldA)[k]? = some (fldA f):=by simp [hx]
   have hd:fs.drop k=f::fs.drop (k+1):=by
    obtain⟨hlt,e⟩:=List.getElem?_eq_some_iff.1 hx
    rw [List.drop_eq_getElem_cons hlt,e]
   rw [hd,qgu] at h
   apply qd []
   repeat' (first|apply And.intro|(intro h;try exact cDd)|(refine Exists.intro (k) ⟨by omega,_,hg,?_⟩)|(refine Exists.intro (k+1,n+(min (f.1.length:Int) 10000+min (f.2.length:Int) 10000)) ⟨⟨by omega,by omega,by omega,by omega,?_⟩,by simp only;omega,?_⟩)|exact cSd|apply qa []|refine exr ?_|refine qh ?_)
   all_goals first|grind|(simp;done)
  ·have hd:fs.drop k=[]:=List.drop_eq_nil_of_le (by omega)
   rw [hd,qgu] at h
   apply qd []
   repeat' (first|apply And.intro|(intro h;try exact cDd)|exact cSd|apply qa []|refine exr ?_|refine qh ?_)
   all_goals first|grind|(simp [*];done)
theorem q77 (b:List qu) (st:List AObj) (hb:b.length<9223372036854775808) (hf:∀ x∈b,x.fields.length<9223372036854775808):qm E 26 [zj b] st fun r st'=>r=Bv (qat b 0)∧st'=st:=by
 refine ze [.a (zj b)] (qq _) Tryz.func26 rfl rfl (fun _=>rfl) rfl fun S0=>?_
 have hm:(b.map j6).length=b.length:=by simp
 apply qd []
 repeat' (first|apply And.intro|(intro h;try exact cDd)|exact cSd|apply qa []|refine exr ?_|refine qh ?_)
 refine zq (X:=Nat) (fun k=>⟨[(5,.a (zj b)),(6,.i b.length),(7,.i k)],[],0⟩) (fun k=>k≤b.length∧k≤51∧qat (b.drop k) k=qat b 0) (fun x=>b.length - x) 0 ⟨by omega,by omega,rfl⟩ ?_ ?_
 ·skip
  repeat' (first|apply And.intro|(intro h;try exact cDd)|exact cSd|apply qa []|refine exr ?_|refine qh ?_)
  all_goals first|(simp;done)
 ·rintro k ⟨hk,hk2,h⟩
  by_cases hc:k<b.length
  ·obtain⟨x,hx⟩:∃ x,b[k]? = some x:=⟨_,List.getElem?_eq_getElem hc⟩
   have hg:(b.map j6)[k]? = some (j6 x):=by simp [hx]
   have hd:b.drop k=x::b.drop (k+1):=by
    obtain⟨hlt,e⟩:=List.getElem?_eq_some_iff.1 hx
    rw [List.drop_eq_getElem_cons hlt,e]
   rw [hd,qat] at h
   have hmu:=fun st=>zbp x.fields st (hf x (List.mem_of_getElem? hx))
   apply qd []
   repeat' (first|apply And.intro|(intro h;try exact cDd)|exact⟨Tryz.call70⟩|refine cpe hmu ?_|(refine Exists.intro (k) ⟨by omega,_,hg,?_⟩)|(refine Exists.intro (k+1) ⟨⟨by omega,by omega,?_⟩,by omega,?_⟩)|exact cSd|apply qa []|refine exr ?_|refine qh ?_)
   all_goals first|grind|(simp;done)
  ·have hd:b.drop k=[]:=List.drop_eq_nil_of_le (by omega)
   rw [hd,qat] at h
   apply qd []
   repeat' (first|apply And.intro|(intro h;try exact cDd)|exact cSd|apply qa []|refine exr ?_|refine qh ?_)
   all_goals first|grind|(simp [*];done)
end Go.Proofs.YtmoklbacdkmkaaaGreatDoor
namespace Go.Pl
open Go Go.Proofs
structure EntV where
 x:zm
 id:Int
structure q7 where
 ents:List EntV
 next:Int
 many:Int
def qax (l:q7) (x:zm):q7:=if x.kind=3 then⟨l.ents++[⟨x,l.next⟩],l.next+1,l.many+1⟩ else⟨l.ents++[⟨x,0⟩],l.next,l.many⟩
def ofF (its:List zm):q7:=its.foldl qax ⟨[],1,0⟩
end Go.Pl
namespace Go.Proofs.YtmoklbacdkmkaaaGreatDoor
open Go Go.Av Go.RowKit Go.Proofs Go.Pl
@[reducible] def entA (e : EntV) : AV := .ag [Iv e.x.kind, Sv e.x.raw, zz e.x.fields, Iv e.id]
@[reducible] def vm (l : q7) : AV := .pp [.sl 4 (l.ents.map entA) none, Iv l.next, Iv l.many]
def qhv (e:ErrV) (l:q7):AV:=match e with
 | .no=>.tu [vm l,errA .no]
 |e=>.tu [.v (.pointer none),errA e]
theorem qqe (e:EntV):qjw (entA e):=fun y hy=>by
 simp only [AV.cells,List.mem_cons,List.not_mem_nil,or_false] at hy
 rcases hy with rfl|rfl|rfl|rfl
 ·exact qq _
 ·exact qq _
 ·exact qap _
 ·exact qq _
theorem qgs (l:q7):Pure (vm l):=qsg fun x hx=>by
 simp only [List.mem_cons,List.not_mem_nil,or_false] at hx
 rcases hx with rfl|rfl|rfl
 ·exact qaf fun x hx=>by
   obtain⟨f,_,rfl⟩:=List.mem_map.1 hx
   exact qqe f
 ·exact qq _
 ·exact qq _
theorem qi7 (e:ErrV) (l:q7):Pure (qhv e l):=by
 cases e with
 |no=>exact kg (qgs l) (kp _)
 |num n=>exact kg (qq _) (kp _)
 |at' a n=>exact kg (qq _) (kp _)
theorem qgz:∀ (n:Nat) (rest:qb) (k:Nat) (p:PSt),rest.length≤n→PB (4 * k) p→k+rest.length≤60000→(runL k (zl rest) p).2.items.length≤300000:=by
 have nil:∀ (k:Nat) (p:PSt),PB (4 * k) p→k≤60000→(runL k (zl []) p).2.items.length≤300000:=fun k p hB hk=>by
  have e:jn p 0 [] true 1=endP p:=rfl
  have h:=qh8 (no:=0) (text:=[]) (ended:=true) (kind:=1) hB (by omega) (by simp)
  rw [e] at h
  have e2:runL k (zl []) p=endP p:=by rw [vq];rfl
  rw [e2]
  have:=h.items
  omega
 intro n
 induction n with
 |zero=>
  intro rest k p hr hB hk
  obtain rfl:rest=[]:=List.eq_nil_of_length_eq_zero (by omega)
  exact nil k p hB (by simpa using hk)
 |succ n ih=>
  intro rest k p hr hB hk
  by_cases hne:rest=[]
  ·subst hne
   exact nil k p hB (by simpa using hk)
  ·have hu:=j8 10 rest
   have hpl:=j9 10 rest
   have hr0:0<rest.length:=List.length_pos_iff.2 hne
   rw [v7 hne]
   simp only [runL]
   have hB2:=qo4 (no:=k) (text:=upto 10 rest) (ended:=decide (10∈rest)) hB (by omega) (by omega)
   split
   ·have:=hB.items
    simp only
    omega
   ·exact ih (past 10 rest) (k+1) _ (by omega) hB2 (by omega)
theorem qop (text:qb):(itsE text).length≤300000:=by
 unfold itsE
 split
 ·simp
 ·have h:=qgz text.length text 0 p0 (Nat.le_refl _) q2l (by omega)
  unfold jv
  split
  ·simp
  ·exact h
theorem q8g (text:qb) (st:List AObj) (hl:text.length<1000000):qm E 87 [Sv text] st fun r st'=>r=qhv (jz text) (ofF (itsE text))∧st'=st:=by
 refine qox [.s text] (qi7 _ _) Tryz.func87 rfl rfl (fun _=>rfl) rfl fun S0=>?_
 have hp:=fun st=>qt3 text st hl
 have hil:=qop text
 generalize itsE text=its at hp hil
 cases he:jz text with
 |num n=>
  rw [he] at hp
  apply qd [19]
  repeat' (first|apply And.intro|(intro h;try exact cDd)|exact⟨Tryz.call58⟩|refine cpe hp ?_|exact cSd|apply qa [19]|refine exr ?_|refine qh ?_)
 |at' a n=>
  rw [he] at hp
  apply qd [19]
  repeat' (first|apply And.intro|(intro h;try exact cDd)|exact⟨Tryz.call58⟩|refine cpe hp ?_|exact cSd|apply qa [19]|refine exr ?_|refine qh ?_)
 |no=>
  rw [he] at hp
  apply qd [19]
  repeat' (first|apply And.intro|(intro h;try exact cDd)|exact⟨Tryz.call58⟩|refine cpe hp ?_|exact cSd|apply qa [19]|refine exr ?_|refine qh ?_)
  refine zq (X:=Nat×q7) (fun (k,l)=>⟨[(6,.bx 0 0),(20,.a (ji its)),(21,.i its.length),(22,.i k)],[(0,some (.cells 112 [.tp 1,.i l.next,.i l.many])),(1,some (.tip 4 139 (l.ents.map entA)))],2⟩)
   (fun (k,l)=>k≤its.length∧l.ents.length=k∧(1≤l.next∧l.next≤k+1∧0≤l.many∧l.many≤k)∧(its.drop k).foldl qax l=ofF its) (fun (k,l)=>its.length - k) (0,⟨[],1,0⟩) ⟨by omega,rfl,⟨by decide,by decide,by decide,by decide⟩,rfl⟩ ?_ ?_
  ·skip
   repeat' (first|apply And.intro|(intro h;try exact cDd)|exact cSd|apply qa []|refine exr ?_|refine qh ?_)
   all_goals (simp;done)
  ·rintro⟨k,l⟩ ⟨hk,hlk,hnx,hrun⟩
   by_cases hkn:k<its.length
   ·have hx:its[k]? = some its[k]:=List.getElem?_eq_getElem hkn
    have hxm:(its.map z0)[k]? = some (z0 its[k]):=by rw [List.getElem?_map,hx];rfl
    rw [List.drop_eq_getElem_cons hkn,List.foldl_cons] at hrun
    have hml:(l.ents.map entA).length=l.ents.length:=by simp
    generalize its[k]=x at hx hxm hrun
    by_cases hk3:x.kind=3
    ·have e:qax l x=⟨l.ents++[⟨x,l.next⟩],l.next+1,l.many+1⟩:=if_pos hk3
     rw [e] at hrun
     apply qd []
     repeat' (first|apply And.intro|(intro h;try exact cDd)|(refine Exists.intro (k) ⟨by omega,_,hxm,?_⟩)|(refine Exists.intro (k+1,⟨l.ents++[⟨x,l.next⟩],l.next+1,l.many+1⟩) ⟨⟨by omega,by simp [hlk],by simp only;omega,hrun⟩,by simp only;omega,?_⟩)|exact cSd|apply qa []|refine exr ?_|refine qh ?_)
     all_goals (simp;done)
    ·have e:qax l x=⟨l.ents++[⟨x,0⟩],l.next,l.many⟩:=if_neg hk3
     rw [e] at hrun
     apply qd []
     repeat' (first|apply And.intro|(intro h;try exact cDd)|(refine Exists.intro (k) ⟨by omega,_,hxm,?_⟩)|(refine Exists.intro (k+1,⟨l.ents++[⟨x,0⟩],l.next,l.many⟩) ⟨⟨by omega,by simp [hlk],by simp only;omega,hrun⟩,by simp only;omega,?_⟩)|exact cSd|apply qa []|refine exr ?_|refine qh ?_)
     all_goals (simp;done)
   ·have hkn:k=its.length:=by omega
    subst hkn
    rw [List.drop_length] at hrun
    have e:ofF its=l:=hrun.symm
    rw [e]
    apply qd []
    repeat' (first|apply And.intro|(intro h;try exact cDd)|exact cSd|apply qa []|refine exr ?_|refine qh ?_)
end Go.Proofs.YtmoklbacdkmkaaaGreatDoor
namespace Go.Av
open Go Go.RowKit
theorem qi2 {E:Env} {rd:Option Nat} {N:Nat} {ops:Array Oper} {K:AS→Prop} {s:AS} {rest:List Oper} {d:Option Tmp} {T:TypeId} {p:String} {af:Array Edge} {x:Operand} {t t' te:TypeId} {sz:Nat} {xs:List AV} {tip:Option Nat} (hx:qj N s x = .sl sz xs tip) (hu:E.P.underlying t=some (.slice te))
  (h1:xs=[]→AOps E rd N ops rest K (s.put d (Bv true))) (h2:AOps E rd N ops rest K (s.put d (Bv false))):AOps E rd N ops (⟨d,.binOp .eql t x (.const (.slice none 0 0)) t',T,p,af,none⟩::rest) K s:=by
 refine q6 rfl (qz nofun fun B0 w0 G a w _ hI=>?_)
 have he:=hI.eval_of hx
 have key:∃ q n c,a.eval x = .slice q n c∧(q.isNone=true→xs=[]):=by
  generalize a.eval x=u at he
  cases he with
  |sl0=>exact⟨_,_,_,rfl,fun _=>rfl⟩
  |sl=>exact⟨_,_,_,rfl,fun h=>by simp at h⟩
 obtain⟨q,n,c,hv,hq0⟩:=key
 have hc:a.eval (.const (.slice none 0 0)) = .slice none 0 0:=rfl
 have hq:=Lib.run_eql_slice_nil (P:=E.P) w t te q n c 0 0 hu
 refine⟨_,w,G,.v (.bool q.isNone),s.st,?_,.refl G,hI.agree,.v _,?_⟩
 ·generalize a.eval = ρ at hv hc
  simp [execOp,hv,hc,eqGuard_at_slice,hq]
 ·cases hb:q.isNone with
  |true=>exact h1 (hq0 hb)
  |false=>exact h2
theorem qc9.len0 {c:AV} (h:qc9 c):∀ (G:Gh) (v:Value),Rel G c v→∃ b n cp,v = .slice b n cp∧n≤cp:=fun G v hv=>by
 obtain⟨base,rfl⟩:=h.val G v hv
 exact⟨_,_,_,rfl,Nat.le_refl _⟩
end Go.Av
namespace Go.Proofs.YtmoklbacdkmkaaaGreatDoor
open Go Go.Av Go.RowKit Go.Proofs Go.Pl
theorem qgn (fs:List Fld) (st:List AObj) (hl:fs.length<1000000):qm E 80 [zz fs] st fun r st'=>r=zz fs∧st'=st:=by
 refine qy (qap _) (qp Tryz.func80 rfl (Nat.le_of_ble_eq_true rfl) ?_)
 have hml:(fs.map fldA).length=fs.length:=by simp
 rw [List.append_nil]
 repeat' (first|(apply qbl (st:=st);(iterate 6 exact rfl))|(apply qi2;exact rfl;exact rfl;intro h0)|apply ql|apply qe|apply qf|apply qi|apply qg|(apply qc;exact rfl;apply cd_t;exact cRa)|(apply qc;exact rfl;apply cd_f;exact cRa)|apply qs|apply qt|(apply qhb (b:=st.length) (xs:=[]) (ys:=fs.map fldA) (bytes:=32);(iterate 5 exact rfl);exact⟨⟨_,_,rfl,rfl,rfl,rfl,rfl⟩⟩;(focus (repeat' (first|assumption|exact qya _ _ _ _|exact q0v _ _ _ _ _ _ _|apply qo7|apply qt6|(refine yg (T:=_) (ver:=_) (cs:=_) ?_)|exact xd|exact jb rfl|apply jy|apply kf|omega|apply qa6)));(exact qe7);(first|exact rfl|exact qbk fun _=>rfl);((simp [maxLen];omega));((simp;omega));intro c' S' t1 g1 g2 g3 g4))
 ·exact qn rfl (wb (q9 rfl) (fun G v h=>by
   rw [zz,h0]
   exact qa1 h)) ⟨rfl,_,(List.append_nil st).symm⟩
 ·exact qn rfl (wb (q9 rfl) (qkz g1)) ⟨rfl,qr7 fun j hj=>(g2.same j (by omega) (Nat.lt_of_lt_of_le hj qe7)).trans (List.getElem?_append_left hj)⟩
theorem q1m (es:List EntV) (st:List AObj) (hl:es.length<1000000):qm E 130 [.sl 4 (es.map entA) none] st fun r st'=>OwnR 4 139 (es.map entA) st (.v undef) r st':=by
 refine qp Tryz.func130 rfl (Nat.le_of_ble_eq_true rfl) ?_
 have hml:(es.map entA).length=es.length:=by simp
 rw [List.append_nil]
 by_cases he:es=[]
 ·subst he
  repeat' (first|(apply qbl (st:=st);(iterate 6 exact rfl))|(apply qi2;exact rfl;exact rfl;intro h0)|(apply qvd (c:=.os st.length 0 0 0 0);exact rfl;exact (qmd _ _ _).len0;exact fun _ _ h=>h;exact rfl;exact rfl;exact⟨⟨_,_,rfl,rfl,rfl,rfl,rfl⟩⟩)|apply ql|apply qe|apply qf|apply qi|apply qg|(apply qc;exact rfl;apply cd_t;exact cRa)|(apply qc;exact rfl;apply cd_f;exact cRa)|apply qs|apply qt)
  ·exact qn rfl (q9 rfl) ⟨.inl ⟨rfl,qw3 none⟩,Nat.le_refl _,fun _ _ _=>rfl,fun o ho=>by
   have ho:(none:Option Nat)=some o:=ho
   simp at ho⟩
  ·exact qn rfl (q9 rfl) ⟨.inl ⟨rfl,qmd _ _ _⟩,qe7,fun j hj _=>List.getElem?_append_left hj,fun o ho=>by
   have ho:(none:Option Nat)=some o:=ho
   simp at ho⟩
 ·have hne:es.map entA≠[]:=by simpa using he
  repeat' (first|(apply qbl (st:=st);(iterate 6 exact rfl))|(apply qi2;exact rfl;exact rfl;intro h0)|(refine qha (ys:=es.map entA) (bytes:=56) (qmd _ _ _).val (fun _ _ h=>h) rfl rfl ⟨⟨_,_,rfl,rfl,rfl,rfl,rfl⟩⟩ (qbk fun _=>rfl) hne (by simp [maxLen];omega) (by simp;omega) fun cap pad q1 q2 q3 q4=>?_)|apply ql|apply qe|apply qf|apply qi|apply qg|(apply qc;exact rfl;apply cd_t;exact cRa)|(apply qc;exact rfl;apply cd_f;exact cRa)|apply qs|apply qt)
  ·exact absurd h0 hne
  ·refine qn rfl (q9 rfl) ⟨.inr ⟨_,0,cap,pad,rfl,xd,q1,q2,q3,q4⟩,Nat.le_trans qe7 qe7,fun j hj _=>?_,fun o ho=>?_⟩
   ·show ((st++[_])++[_])[j]? = _
    rw [List.getElem?_append_left (by simp;omega),List.getElem?_append_left hj]
   ·have ho':some (st++[AObj.cells 0 139 []]).length=some o:=ho
    simp only [Option.some.injEq] at ho'
    left
    rw [← ho']
    simp
end Go.Proofs.YtmoklbacdkmkaaaGreatDoor
namespace Go.Pl
open Go Go.Proofs
def x8 (id:Int):Nat→List EntV→Int
 | _,[]=> -1
 |k,e::r=>if e.id=id then (k:Int) else x8 id (k+1) r
def atF (l:q7) (id:Int):Int:=if id<1 then -1 else x8 id 0 l.ents
theorem qqk (id:Int):∀ (es:List EntV) (k:Nat),x8 id k es = -1∨∃ i e,x8 id k es=((k+i:Nat):Int)∧es[i]? = some e∧e.id=id
 | [],k=>.inl rfl
 |e::r,k=>by
  unfold x8
  by_cases h:e.id=id
  ·rw [if_pos h]
   exact .inr ⟨0,e,by simp,rfl,h⟩
  ·rw [if_neg h]
   rcases qqk id r (k+1) with g | ⟨i,e',g1,g2,g3⟩
   ·exact .inl g
   ·exact .inr ⟨i+1,e',by rw [g1];congr 1;omega,by simpa using g2,g3⟩
theorem qhd (l:q7) (id:Int):atF l id = -1∨∃ (i:Nat) (e:EntV),atF l id=(i:Int)∧l.ents[i]? = some e∧e.id=id∧1≤id:=by
 unfold atF
 by_cases h:id<1
 ·exact .inl (if_pos h)
 ·rw [if_neg h]
  rcases qqk id l.ents 0 with g | ⟨i,e,g1,g2,g3⟩
  ·exact .inl g
  ·exact .inr ⟨i,e,by rw [g1];congr 1;omega,g2,g3,by omega⟩
end Go.Pl
namespace Go.Proofs.YtmoklbacdkmkaaaGreatDoor
open Go Go.Av Go.RowKit Go.Proofs Go.Pl
theorem zd6 (e:EntV) (id:Int) (st:List AObj):qm E 128 [entA e,.pp [Iv id]] st fun r st'=>r=Bv (decide (e.id=id))∧st'=st:=by
 refine ze [.a (entA e),.a (.pp [Iv id])] (qq _) Tryz.func128 rfl rfl (fun _=>rfl) rfl fun S0=>?_
 apply qd []
 repeat' (first|apply And.intro|(intro h;try exact cDd)|exact cSd|apply qa []|refine exr ?_|refine qh ?_)
@[reducible] def atFn (id : Int) : SV := .fn (.func 128) [] [.a (.pp [Iv id])]
theorem zdd (l:q7) (st:List AObj):qm E 50 [vm l] st fun r st'=>r=Iv l.many∧st'=st:=by
 refine ze [.a (vm l)] (qq _) Tryz.func50 rfl rfl (fun _=>rfl) rfl fun S0=>?_
 apply qd []
 repeat' (first|apply And.intro|(intro h;try exact cDd)|exact cSd|apply qa []|refine exr ?_|refine qh ?_)
theorem q0g (l:q7) (st:List AObj):qm E 18 [vm l] st fun r st'=>r=Iv l.next∧st'=st:=by
 refine ze [.a (vm l)] (qq _) Tryz.func18 rfl rfl (fun _=>rfl) rfl fun S0=>?_
 apply qd []
 repeat' (first|apply And.intro|(intro h;try exact cDd)|exact cSd|apply qa []|refine exr ?_|refine qh ?_)
@[reducible] def lstH (a : Nat) (l : q7) : List (Nat × Option SR) := [(0, some (.cells 112 [.tp a, .i l.next, .i l.many])), (a, some (.own 4 139 (l.ents.map entA)))]
theorem q78 (es:List EntV) (id:Int) (hl:es.length<1000000):vk E 127 [.tp 0,atFn id] 1 (hpF [(0,some (.own 4 139 (es.map entA)))]) ⟨.i (x8 id 0 es),vj [(0,some (.own 4 139 (es.map entA)))],[(0,some (.own 4 139 (es.map entA)))]++vt [(0,some (.own 4 139 (es.map entA)))],1⟩:=by
 refine xc [.tp 0,atFn id] [(0,some (.own 4 139 (es.map entA)))] 1 (.i (x8 id 0 es)) [(0,some (.own 4 139 (es.map entA)))] 1 Tryz.func127 rfl rfl rfl rfl fun S F ρ=>?_
 have hml:(es.map entA).length=es.length:=by simp
 apply qd []
 repeat' (first|apply And.intro|(intro h;try exact cDd)|exact cSd|apply qa []|refine exr ?_|refine qh ?_)
 refine zq (X:=Nat) (fun k=>⟨[(0,.tp 0),(1,atFn id),(7,.i es.length),(8,.i k)],[(0,some (.own 4 139 (es.map entA)))],1⟩) (fun k=>k≤es.length∧x8 id k (es.drop k)=x8 id 0 es) (fun k=>es.length - k) 0 ⟨by omega,by simp⟩ ?_ ?_
 ·skip
  repeat' (first|apply And.intro|(intro h;try exact cDd)|exact cSd|apply qa []|refine exr ?_|refine qh ?_)
  all_goals (simp;done)
 ·rintro k ⟨hk,hrun⟩
  by_cases hkn:k<es.length
  ·have hx:es[k]? = some es[k]:=List.getElem?_eq_getElem hkn
   have hxm:(es.map entA)[k]? = some (entA es[k]):=by rw [List.getElem?_map,hx];rfl
   rw [List.drop_eq_getElem_cons hkn,x8] at hrun
   generalize es[k]=e at hx hxm hrun
   have h1:=fun st=>zd6 e id st
   by_cases hid:e.id=id
   ·rw [if_pos hid] at hrun
    rw [decide_eq_true hid] at h1
    rw [← hrun]
    apply qd []
    repeat' (first|apply And.intro|(intro h;try exact cDd)|(refine qov (i:=k) rfl rfl rfl rfl rfl rfl (by omega) ?_)|(refine qxh (i:=k) (j:=0) rfl rfl rfl rfl hxm rfl rfl ?_)|exact⟨Tryz.call128⟩|refine cpe h1 ?_|exact cSd|apply qa []|refine exr ?_|refine qh ?_)
   ·rw [if_neg hid] at hrun
    rw [decide_eq_false hid] at h1
    apply qd []
    repeat' (first|apply And.intro|(intro h;try exact cDd)|(refine qov (i:=k) rfl rfl rfl rfl rfl rfl (by omega) ?_)|(refine qxh (i:=k) (j:=0) rfl rfl rfl rfl hxm rfl rfl ?_)|exact⟨Tryz.call128⟩|refine cpe h1 ?_|(refine Exists.intro (k+1) ⟨⟨by omega,hrun⟩,by omega,?_⟩)|exact cSd|apply qa []|refine exr ?_|refine qh ?_)
  ·have hkn:k=es.length:=by omega
   subst hkn
   rw [List.drop_length,x8] at hrun
   rw [← hrun]
   apply qd []
   repeat' (first|apply And.intro|(intro h;try exact cDd)|exact cSd|apply qa []|refine exr ?_|refine qh ?_)
theorem qrz (l:q7) (id:Int) (hl:l.ents.length<1000000):vk E 69 [.bx 0 0,.i id] 2 (hpF (lstH 1 l)) ⟨.i (atF l id),vj (lstH 1 l),lstH 1 l++vt (lstH 1 l),2⟩:=by
 refine xc [.bx 0 0,.i id] (lstH 1 l) 2 (.i (atF l id)) (lstH 1 l) 2 Tryz.func69 rfl rfl rfl rfl fun S F ρ=>?_
 unfold atF
 have h1:=q78 l.ents id hl
 by_cases h:id<1
 ·rw [if_pos h]
  apply qd []
  repeat' (first|apply And.intro|(intro h;try exact cDd)|exact cSd|apply qa []|refine exr ?_|refine qh ?_)
 ·rw [if_neg h]
  apply qd []
  repeat' (first|apply And.intro|(intro h;try exact cDd)|exact⟨Tryz.call127⟩|(refine jj h1 ?_)|exact cSd|apply qa []|refine exr ?_|refine qh ?_)
end Go.Proofs.YtmoklbacdkmkaaaGreatDoor
