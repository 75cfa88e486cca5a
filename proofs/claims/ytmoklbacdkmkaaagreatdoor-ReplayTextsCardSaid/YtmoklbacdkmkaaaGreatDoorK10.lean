/- Contracts and plain facts that the closing text leans on (part 10). No condition of their own beyond those that each states. -/
import Derived.Test.YtmoklbacdkmkaaaGreatDoorK9
set_option maxRecDepth 100000
set_option linter.unusedVariables false
set_option linter.unusedSimpArgs false
namespace Go.Av
open Go Go.RowKit
section
variable {E : Env} {rd : Option Nat} {N : Nat} {ops : Array Oper} {K : AS → Prop} {s : AS} {rest : List Oper} {d : Option Tmp} {T : TypeId} {p : String} {af : Array Edge}
def notIf:TypeDesc→Bool
 | .interface _=>false
 | _=>true
def zeroV (P:Program) (t:TypeId):Option Value:=match P.info? t with|some i=>i.zero|none=>none
theorem zeroV_run {P:Program} {t:TypeId} {z:Value} (h:zeroV P t=some z) (w:World):(zeroValue t).run P w = .ok z w:=by
 unfold zeroV at h
 split at h
 ·rename_i i hi
  simp [zeroValue,typeInfo,hi,h]
 ·simp at h
theorem aops_assertHit {x:Operand} {xt t:TypeId} {D:TypeDesc} {y:AV} (hx:ql N s x = .ifc t y) (hu:E.P.underlying t=some D) (hn:notIf D=true)
  (h:AOps E rd N ops rest K (s.put d (.tu [y,Bv true]))):AOps E rd N ops (⟨d,.typeAssert x xt t true,T,p,af,none⟩::rest) K s:=by
 refine zb rfl (za nofun fun B0 w0 G a w _ hI=>?_)
 have he:=hI.eval_of hx
 generalize hv:a.eval x=v at he
 cases he with
 |ifc _ _ z hz=>
  refine⟨.tuple #[z,.bool true],w,G,_,s.st,?_,.refl G,hI.agree,qld hz (.v _),h⟩
  generalize a.eval = ρ at hv
  cases D <;> first|(simp [notIf] at hn;done)|simp [execOp,Instr.typeAssert,hv,run_underlying hu]
theorem aops_assertMiss {x:Operand} {xt t u:TypeId} {D:TypeDesc} {y:AV} {z:Value} (hx:ql N s x = .ifc u y) (hu:E.P.underlying t=some D) (hn:notIf D=true) (hne:Nat.beq u t=false) (hz:zeroV E.P t=some z)
  (h:AOps E rd N ops rest K (s.put d (.tu [.v z,Bv false]))):AOps E rd N ops (⟨d,.typeAssert x xt t true,T,p,af,none⟩::rest) K s:=by
 refine zb rfl (za nofun fun B0 w0 G a w _ hI=>?_)
 have he:=hI.eval_of hx
 generalize hv:a.eval x=v at he
 have hne':u≠t:=fun e=>by subst e;simp at hne
 have hz':=zeroV_run hz w
 cases he with
 |ifc _ _ q hq=>
  refine⟨.tuple #[z,.bool false],w,G,_,s.st,?_,.refl G,hI.agree,qld (.v _) (.v _),h⟩
  generalize a.eval = ρ at hv
  cases D <;> first|(simp [notIf] at hn;done)|simp [execOp,Instr.typeAssert,hv,run_underlying hu,hne',hz']
theorem aops_assertNil {x:Operand} {xt t:TypeId} {D:TypeDesc} {z:Value} (hx:ql N s x = .v .nilIface) (hu:E.P.underlying t=some D) (hn:notIf D=true) (hz:zeroV E.P t=some z)
  (h:AOps E rd N ops rest K (s.put d (.tu [.v z,Bv false]))):AOps E rd N ops (⟨d,.typeAssert x xt t true,T,p,af,none⟩::rest) K s:=by
 refine zb rfl (za nofun fun B0 w0 G a w _ hI=>?_)
 have hv:=hI.evalv hx
 have hz':=zeroV_run hz w
 refine⟨.tuple #[z,.bool false],w,G,_,s.st,?_,.refl G,hI.agree,qld (.v _) (.v _),h⟩
 generalize a.eval = ρ at hv
 cases D <;> first|(simp [notIf] at hn;done)|simp [execOp,Instr.typeAssert,hv,run_underlying hu,hz']
end
end Go.Av
namespace Go.Proofs.YtmoklbacdkmkaaaGreatDoor
open Go Go.Av Go.RowKit Go.Proofs Go.Pl
def okE:ErrV→Prop
 | .no=>True
 | .num n=>n≠0
 | .at' _ n=>n≠0
theorem numE_c (e:ErrV) (st:List AObj) (he:okE e):qo E 14 [errA e] st fun r st'=>r=Iv e.code∧st'=st:=by
 refine qv (qr _) (qp Tryz.func14 rfl (Nat.le_of_ble_eq_true rfl) ?_)
 cases e with
 |no=>
  repeat' (first|apply qm|apply qx|apply qe|apply qg|apply qj|apply qf)
  refine j5 (fun (k:Unit) s=>StA [(0,.v .nilIface),(7,Iv 0)] (st++[]) [] s) (fun k=>0) () (ja ⟨rfl,rfl,trivial⟩) ?_
  rintro k _ ⟨t,rfl⟩
  repeat' (first|apply qm|apply qx|apply qe|apply qg|apply qj|apply qf|(apply qq;(iterate 3 exact rfl))|(apply qc;exact rfl;apply kz;exact cAo)|(apply qc;exact rfl;apply cd_t;exact cRa)|(apply qhe;exact rfl;exact rfl)|apply qu|apply qt)
  exact qn rfl (q6 rfl) ⟨rfl,_,rfl⟩
 |num n=>
  have hk:n≠0:=he
  repeat' (first|apply qm|apply qx|apply qe|apply qg|apply qj|apply qf)
  refine j5 (fun (k:Unit) s=>StA [(0,errA (.num n)),(7,Iv 0)] (st++[]) [] s) (fun k=>0) () (ja ⟨rfl,rfl,trivial⟩) ?_
  rintro k _ ⟨t,rfl⟩
  repeat' (first|apply qm|apply qx|apply qe|apply qg|apply qj|apply qf|(apply zf;exact rfl;exact rfl)|(apply qq;(iterate 3 exact rfl))|(apply qw;(iterate 4 exact rfl))|(apply qbz;exact cRa)|(apply qk;exact rfl;apply pk_t;exact cRa)|(apply qc;exact rfl;apply kz;exact cAo)|(apply qc;exact rfl;apply cd_f;exact cRa)|(apply qhc;exact rfl;exact rfl)|apply qu|apply qt|(apply aops_assertHit;(iterate 3 exact rfl)))
  exact qn rfl (q6 rfl) ⟨rfl,_,rfl⟩
 |at' a n=>
  have hk:n≠0:=he
  repeat' (first|apply qm|apply qx|apply qe|apply qg|apply qj|apply qf)
  refine j5 (fun (j:Nat) s=>(j=0∧StA [(0,errA (.at' a n)),(7,Iv 0)] (st++[]) [] s)∨(j=1∧StA [(0,errA (.num n)),(7,Iv 1)] (st++[]) [] s)) (fun j=>1 - j) 0 (.inl ⟨rfl,ja ⟨rfl,rfl,trivial⟩⟩) ?_
  rintro j _ (⟨rfl,t,rfl⟩ | ⟨rfl,t,rfl⟩)
  ·skip
   repeat' (first|apply qm|apply qx|apply qe|apply qg|apply qj|apply qf|(apply zf;exact rfl;exact rfl)|(apply qq;(iterate 3 exact rfl))|(apply z6;exact rfl)|(apply qw;(iterate 4 exact rfl))|(apply qaq;exact cRa)|(apply qgf;exact cRa)|(apply yq;exact cRa)|(apply qk;exact rfl;apply qfz;exact cRa)|(apply qk;exact rfl;apply pk_f;exact cRa)|(apply qc;exact rfl;apply kz;exact cAo)|(apply qc;exact rfl;apply cd_f;exact cRa)|(apply zh;exact rfl;exact rfl;exact qz (by omega) (by omega))|(apply qhc;exact rfl;exact rfl)|(apply qb3;(iterate 4 exact rfl))|(apply zx;(iterate 3 exact rfl))|(apply xw;exact rfl;exact rfl)|(apply qcv;(iterate 3 exact rfl))|apply qu|(apply aops_assertMiss;(iterate 5 exact rfl))|(apply aops_assertHit;(iterate 3 exact rfl)))
   exact⟨1,.inr ⟨rfl,ja ⟨rfl,rfl,trivial⟩⟩,by omega⟩
  ·skip
   repeat' (first|apply qm|apply qx|apply qe|apply qg|apply qj|apply qf|(apply zf;exact rfl;exact rfl)|(apply qq;(iterate 3 exact rfl))|(apply qw;(iterate 4 exact rfl))|(apply qbz;exact cRa)|(apply qk;exact rfl;apply pk_t;exact cRa)|(apply qc;exact rfl;apply kz;exact cAo)|(apply qc;exact rfl;apply cd_f;exact cRa)|(apply qhc;exact rfl;exact rfl)|apply qu|apply qt|(apply aops_assertHit;(iterate 3 exact rfl)))
   exact qn rfl (q6 rfl) ⟨rfl,_,rfl⟩
theorem atE_c (e:ErrV) (st:List AObj):qo E 15 [errA e] st fun r st'=>r=Iv e.pos∧st'=st:=by
 refine qv (qr _) (qp Tryz.func15 rfl (Nat.le_of_ble_eq_true rfl) ?_)
 cases e with
 |no=>
  repeat' (first|apply qm|apply qe|apply qg|apply qj|apply qf|(apply zf;exact rfl;exact rfl)|(apply qw;(iterate 4 exact rfl))|(apply yq;exact cRa)|(apply qk;exact rfl;apply pk_f;exact cRa)|(apply qc;exact rfl;apply cd_f;exact cRa)|apply qu|apply qt|(apply aops_assertNil;(iterate 4 exact rfl)))
  exact qn rfl (q6 rfl) ⟨rfl,_,rfl⟩
 |num n=>
  repeat' (first|apply qm|apply qe|apply qg|apply qj|apply qf|(apply zf;exact rfl;exact rfl)|(apply qw;(iterate 4 exact rfl))|(apply yq;exact cRa)|(apply qk;exact rfl;apply pk_f;exact cRa)|(apply qc;exact rfl;apply cd_f;exact cRa)|apply qu|apply qt|(apply aops_assertMiss;(iterate 5 exact rfl)))
  exact qn rfl (q6 rfl) ⟨rfl,_,rfl⟩
 |at' a n=>
  repeat' (first|apply qm|apply qe|apply qg|apply qj|apply qf|(apply zf;exact rfl;exact rfl)|(apply qw;(iterate 4 exact rfl))|(apply qbz;exact cRa)|(apply qk;exact rfl;apply pk_t;exact cRa)|(apply qc;exact rfl;apply qjr;exact cRa)|(apply qb3;(iterate 4 exact rfl))|(apply zx;(iterate 3 exact rfl))|(apply xw;exact rfl;exact rfl)|(apply qm2;(iterate 3 exact rfl))|apply qt|(apply aops_assertHit;(iterate 3 exact rfl)))
  exact qn rfl (q6 rfl) ⟨rfl,_,rfl⟩
end Go.Proofs.YtmoklbacdkmkaaaGreatDoor
namespace Go.Pl
open Go Go.Proofs
def apartFrom (prev:Bool):List jj→List jj
 | []=>[]
 |x::r=>(if prev=true∧x.kind≠1 then [⟨1,[10],[]⟩,x] else [x])++apartFrom (decide (x.kind≠1)) r
def apartF (its:List jj):List jj:=apartFrom false its
def itemsF (l:q9):List jj:=l.ents.map fun e=>e.x
def textL (l:q9):qa:=qct (apartF (itemsF l))
end Go.Pl
namespace Go.Proofs.YtmoklbacdkmkaaaGreatDoor
open Go Go.Av Go.RowKit Go.Proofs Go.Pl
theorem copied_c (x:jj) (st:List AObj) (hl:x.fields.length<1000000):qo E 158 [wg x] st fun r st'=>r=wg x∧st'=st:=by
 refine zm [.a (wg x)] (qa8 (qkn _)) Tryz.func158 rfl rfl (fun _=>rfl) rfl fun S0=>?_
 have h2:=fun st=>q5b x.fields st hl
 apply qd [1]
 repeat' (first|apply And.intro|(intro h;try exact cDd)|exact⟨Tryz.call80⟩|refine cpe h2 ?_|exact cSd|apply qb [1]|refine exr ?_|refine qh ?_)
structure ItsB (its:List jj):Prop where
 len:its.length≤1000000
 fld:∀ x∈its,x.fields.length<1000000
theorem apart_len (prev:Bool):∀ its:List jj,(apartFrom prev its).length≤2 * its.length
 | []=>by simp [apartFrom]
 |x::r=>by
  have ih:=apart_len (decide (x.kind≠1)) r
  unfold apartFrom
  split <;> simp only [List.length_append,List.length_cons,List.length_nil] <;> omega
theorem papart_c (its:List jj) (st:List AObj) (hB:ItsB its):qo E 93 [xi its] st fun r st'=>r=xi (apartF its)∧st'=st:=by
 refine zm [.a (xi its)] (qei _) Tryz.func93 rfl rfl (fun _=>rfl) rfl fun S0=>?_
 have hln:=hB.len
 apply qd []
 repeat' (first|apply And.intro|(intro h;try exact cDd)|exact cSd|apply qb []|refine exr ?_|refine qh ?_)
 refine ji (X:=Nat×List jj) (fun (k,out)=>⟨[(0,.a (xi its)),(3,.tp 0),(6,.a (xi its)),(7,.i its.length),(8,.i k)],[(0,some (.tip 3 137 (out.map wg)))],1⟩)
  (fun (k,out)=>k≤its.length∧out.length≤2 * k∧∃ prev,(prev=true↔∃ y,0<k∧its[k - 1]? = some y∧y.kind≠1)∧out++apartFrom prev (its.drop k)=apartF its) (fun (k,out)=>its.length - k) (0,[]) ⟨by omega,by simp,false,by simp,rfl⟩ ?_ ?_
 ·skip
  repeat' (first|apply And.intro|(intro h;try exact cDd)|exact cSd|apply qb []|refine exr ?_|refine qh ?_)
  all_goals (simp;done)
 ·rintro⟨k,out⟩ ⟨hk,hol,prev,hpv,hrun⟩
  by_cases hkn:k<its.length
  ·have hx:its[k]? = some its[k]:=List.getElem?_eq_getElem hkn
   have hxm:(its.map wg)[k]? = some (wg its[k]):=by rw [List.getElem?_map,hx];rfl
   have hxf:=hB.fld its[k] (List.getElem_mem hkn)
   rw [List.drop_eq_getElem_cons hkn,apartFrom] at hrun
   generalize its[k]=x at hx hxm hrun hxf
   have hcp:=fun st=>copied_c x st hxf
   have hml:(out.map wg).length=out.length:=by simp
   have hnext:(decide (x.kind≠1)=true↔∃ y,0<k+1∧its[k+1 - 1]? = some y∧y.kind≠1):=by
    rw [decide_eq_true_iff,Nat.add_sub_cancel,hx]
    constructor
    ·intro h
     exact⟨x,by omega,rfl,h⟩
    ·rintro⟨y,_,h1,h2⟩
     simp only [Option.some.injEq] at h1
     rw [h1]
     exact h2
   by_cases hk0:k=0
   ·have hp:¬ (prev=true):=fun h=>by
     obtain⟨_,h,_⟩:=hpv.1 h
     omega
    rw [if_neg (fun h=>hp h.1)] at hrun
    apply qd []
    repeat' (first|apply And.intro|(intro h;try exact cDd)|(refine Exists.intro (k) ⟨by omega,_,hxm,?_⟩)|exact⟨Tryz.call158⟩|refine cpe hcp ?_|(refine Exists.intro (k+1,out++[x]) ⟨⟨by omega,by simp;omega,_,hnext,by rw [← hrun];simp⟩,by simp only;omega,?_⟩)|exact cSd|apply qb []|refine exr ?_|refine qh ?_)
    all_goals first|(simp [SV.evs,SV.ev];done)|(simp [SV.evs];omega)
   ·obtain⟨y,hy⟩:∃ y,its[k - 1]? = some y:=⟨_,List.getElem?_eq_getElem (by omega:k - 1<its.length)⟩
    have hym:(its.map wg)[k - 1]? = some (wg y):=by rw [List.getElem?_map,hy];rfl
    have hpy:(prev=true↔y.kind≠1):=by
     rw [hpv]
     constructor
     ·rintro⟨z,_,h1,h2⟩
      rw [hy] at h1
      simp only [Option.some.injEq] at h1
      rw [h1]
      exact h2
     ·exact fun h=>⟨y,by omega,hy,h⟩
    by_cases hb:x.kind≠1∧y.kind≠1
    ·rw [if_pos ⟨hpy.2 hb.2,hb.1⟩] at hrun
     obtain⟨hb1,hb2⟩:=hb
     apply qd []
     repeat' (first|apply And.intro|(intro h;try exact cDd)|(refine Exists.intro (k) ⟨by omega,_,hxm,?_⟩)|(refine Exists.intro (k - 1) ⟨by omega,_,hym,?_⟩)|exact⟨Tryz.call158⟩|refine cpe hcp ?_|(refine Exists.intro (k+1,out++[⟨1,[10],[]⟩,x]) ⟨⟨by omega,by simp;omega,_,hnext,by rw [← hrun];simp⟩,by simp only;omega,?_⟩)|exact cSd|apply qb []|refine exr ?_|refine qh ?_)
     all_goals first|(simp [SV.evs,SV.ev];done)|(simp [SV.evs];omega)
    ·rw [if_neg (fun h=>hb ⟨h.2,hpy.1 h.1⟩)] at hrun
     apply qd []
     repeat' (first|apply And.intro|(intro h;try exact cDd)|(refine Exists.intro (k) ⟨by omega,_,hxm,?_⟩)|(refine Exists.intro (k - 1) ⟨by omega,_,hym,?_⟩)|exact⟨Tryz.call158⟩|refine cpe hcp ?_|(refine Exists.intro (k+1,out++[x]) ⟨⟨by omega,by simp;omega,_,hnext,by rw [← hrun];simp⟩,by simp only;omega,?_⟩)|exact absurd ⟨by assumption,by assumption⟩ hb|exact cSd|apply qb []|refine exr ?_|refine qh ?_)
     all_goals first|(simp [SV.evs,SV.ev];done)|(simp [SV.evs];omega)
  ·have hkn:k=its.length:=by omega
   subst hkn
   rw [List.drop_length,apartFrom,List.append_nil] at hrun
   rw [← hrun]
   apply qd []
   repeat' (first|apply And.intro|(intro h;try exact cDd)|exact cSd|apply qb []|refine exr ?_|refine qh ?_)
theorem sjoin_c (its:List jj) (st:List AObj) (hl:its.length≤4000000) (hr:(qct its).length≤1000000000000):qo E 92 [xi its] st fun r st'=>r=Sv (qct its)∧st'=st:=by
 refine qv (qr _) (qp Tryz.func92 rfl (Nat.le_of_ble_eq_true rfl) ?_)
 have hml:(its.map wg).length=its.length:=by simp
 repeat' (first|(apply qkf;exact rfl)|apply qm|apply qx|apply qe|apply qg|apply qj|apply qf|(apply zy;(iterate 4 exact rfl)))
 refine yp its (fun pre s=>∃ q,(q = .v (.pointer none)∨q = .bx (st.length+0) 0 0)∧StE [(3,.bx (st.length+0) 0 0),(6,xi its),(7,Iv its.length),(8,Iv pre.length)] st [bldO 0 q (qct pre) (st.length+1),.tip (qct pre).length 1 5] s) ⟨_,.inl rfl,qce ⟨rfl,rfl,congrArg (fun n:Nat=>Iv (n:Int)) hml,rfl,trivial⟩ rfl⟩ ?_ ?_
 ·rintro _ ⟨q,hq,t,ext,rfl⟩
  repeat' (first|apply qm|apply qe|apply qg|apply qf|(apply qq;(iterate 3 exact rfl))|(apply qc;exact rfl;apply ku;exact cAo)|apply zz|apply qt|(refine qi Tryz.call139 (qkj st _ _ _ _ 0 1 0 _ _ rfl rfl rfl) ?_))
  exact qn rfl (q6 rfl) ⟨rfl,ya _ _ _ _⟩
 ·rintro pre x rest _ hre ⟨q,hq,t,ext,rfl⟩
  have hlen:its.length=pre.length+(rest.length+1):=by rw [hre];simp
  have hget:(its.map wg)[pre.length]? = some (wg x):=by rw [hre];simp
  have hrl:(qct pre).length+x.raw.length≤1000000000000:=by
   have e:x::rest=[x]++rest:=rfl
   rw [hre,qws,e,qws,qwt] at hr
   simp only [List.length_append] at hr
   omega
  repeat' (first|apply qm|apply qx|apply qe|apply qg|(apply qq;(iterate 3 exact rfl))|(apply qc;exact rfl;apply kz;exact cAo)|(apply jg;exact rfl;exact rfl)|(apply zg;(iterate 3 exact rfl))|(apply zx;(iterate 3 exact rfl))|(apply jd;(iterate 5 exact rfl))|(apply zu;(iterate 11 exact rfl))|apply qu|(apply zw (n:=pre.length);(iterate 5 exact rfl);exact hget))
  refine qi Tryz.call136 (qlt st _ _ _ _ 0 1 0 _ _ _ rfl rfl ?_ ?_ rfl) ?_;(exact hq);(omega)
  repeat' (first|apply qe|apply qg|apply qj|(apply zh;exact rfl;exact rfl;exact qz (by omega) (by omega)))
  refine⟨_,.inr rfl,xv ⟨rfl,rfl,rfl,?_,trivial⟩ ?_⟩
  ·rw [y5 pre x];rfl
  ·rw [qws,qwt];rfl
theorem render_c (its:List jj) (st:List AObj) (hB:ItsB its) (hr:(qct (apartF its)).length≤1000000000000):qo E 52 [xi its] st fun r st'=>r=Sv (qct (apartF its))∧st'=st:=by
 refine zm [.a (xi its)] (qr _) Tryz.func52 rfl rfl (fun _=>rfl) rfl fun S0=>?_
 have h1:=fun st=>papart_c its st hB
 have hal:=apart_len false its
 have hln:=hB.len
 have h2:=fun st=>sjoin_c (apartF its) st (by unfold apartF;omega) hr
 apply qd []
 repeat' (first|apply And.intro|(intro h;try exact cDd)|exact⟨Tryz.call93⟩|refine cpe h1 ?_|exact⟨Tryz.call92⟩|refine cpe h2 ?_|exact cSd|apply qb []|refine exr ?_|refine qh ?_)
theorem litems_c (l:q9) (st:List AObj) (hB:ItsB (itemsF l)):qo E 53 [vw l] st fun r st'=>r=xi (itemsF l)∧st'=st:=by
 refine zm [.a (vw l)] (qei _) Tryz.func53 rfl rfl (fun _=>rfl) rfl fun S0=>?_
 have hln:=hB.len
 have hil:(itemsF l).length=l.ents.length:=by simp [itemsF]
 apply qd []
 repeat' (first|apply And.intro|(intro h;try exact cDd)|exact cSd|apply qb []|refine exr ?_|refine qh ?_)
 refine ji (X:=Nat) (fun k=>⟨[(3,.tp 0),(12,.a (.sl 4 (l.ents.map entA) none)),(13,.i l.ents.length),(14,.i k)],[(0,some (.tip 3 137 (((itemsF l).take k).map wg)))],1⟩)
  (fun k=>k≤l.ents.length) (fun k=>l.ents.length - k) 0 (by omega) ?_ ?_
 ·skip
  repeat' (first|apply And.intro|(intro h;try exact cDd)|exact cSd|apply qb []|refine exr ?_|refine qh ?_)
  all_goals (simp;done)
 ·rintro k hk
  by_cases hkn:k<l.ents.length
  ·have hx:l.ents[k]? = some l.ents[k]:=List.getElem?_eq_getElem hkn
   have hxm:(l.ents.map entA)[k]? = some (entA l.ents[k]):=by rw [List.getElem?_map,hx];rfl
   have hxi:(itemsF l)[k]? = some l.ents[k].x:=by unfold itemsF;rw [List.getElem?_map,hx];rfl
   have hxf:=hB.fld l.ents[k].x (List.mem_of_getElem? hxi)
   have htk:(itemsF l).take (k+1)=(itemsF l).take k++[l.ents[k].x]:=by rw [List.take_add_one,hxi];rfl
   have htl:(((itemsF l).take k).map wg).length≤k:=by simp;omega
   generalize l.ents[k]=e at hx hxm hxi hxf htk
   have hcp:=fun st=>q5b e.x.fields st hxf
   apply qd []
   repeat' (first|apply And.intro|(intro h;try exact cDd)|(refine Exists.intro (k) ⟨by omega,_,hxm,?_⟩)|exact⟨Tryz.call80⟩|refine cpe hcp ?_|(refine Exists.intro (k+1) ⟨by omega,by omega,?_⟩)|exact cSd|apply qb []|refine exr ?_|refine qh ?_)
   all_goals first|(rw [htk];simp;done)|(simp [SV.evs];omega)
  ·have hkn:k=l.ents.length:=by omega
   subst hkn
   have e:(itemsF l).take l.ents.length=itemsF l:=List.take_of_length_le (by omega)
   rw [e]
   apply qd []
   repeat' (first|apply And.intro|(intro h;try exact cDd)|exact cSd|apply qb []|refine exr ?_|refine qh ?_)
theorem ltext_c (l:q9) (st:List AObj) (hB:ItsB (itemsF l)) (hr:(textL l).length≤1000000000000):qo E 16 [vw l] st fun r st'=>r=Sv (textL l)∧st'=st:=by
 refine zm [.a (vw l)] (qr _) Tryz.func16 rfl rfl (fun _=>rfl) rfl fun S0=>?_
 have h1:=fun st=>litems_c l st hB
 have h2:=fun st=>render_c (itemsF l) st hB hr
 apply qd []
 repeat' (first|apply And.intro|(intro h;try exact cDd)|exact⟨Tryz.call53⟩|refine cpe h1 ?_|exact⟨Tryz.call52⟩|refine cpe h2 ?_|exact cSd|apply qb []|refine exr ?_|refine qh ?_)
end Go.Proofs.YtmoklbacdkmkaaaGreatDoor
namespace Go.Pl
open Go Go.Proofs Go.Proofs.YtmoklbacdkmkaaaGreatDoor
theorem apart_raws:∀ (its:List jj) (b:Bool),(∀ x∈its,x.raw.length≤1000000)→(qct (apartFrom b its)).length≤1000001 * its.length
 | [],b,h=>by simp [apartFrom,qct]
 |x::r,b,h=>by
  have ih:=apart_raws r (decide (x.kind≠1)) fun y hy=>h y (by simp [hy])
  have hx:=h x (by simp)
  rw [apartFrom,qws,List.length_append]
  split
  ·rw [q6e,qwt]
   simp only [List.length_append,List.length_cons,List.length_nil]
   omega
  ·rw [qwt]
   simp only [List.length_cons]
   omega
theorem textL_le {n:Nat} {l:q9} (hB:LB n l) (h:LI l):(textL l).length≤1000000000000:=by
 have h1:=apart_raws (itemsF l) false fun x hx=>by
  obtain⟨e,he,rfl⟩:=List.mem_map.1 hx
  exact (h e he).1
 have h2:=hB.len
 have h3:=hB.small
 unfold textL apartF
 have:(itemsF l).length=l.ents.length:=by simp [itemsF]
 omega
end Go.Pl
namespace Go.Proofs.YtmoklbacdkmkaaaGreatDoor
open Go Go.Av Go.RowKit Go.Proofs Go.Pl
theorem itsB_of {n:Nat} {l:q9} (hB:LB n l) (h:LI l):ItsB (itemsF l):=by
 have h1:=hB.len
 have h2:=hB.small
 refine⟨by simp [itemsF];omega,fun x hx=>?_⟩
 obtain⟨e,he,rfl⟩:=List.mem_map.1 hx
 have:=(h e he).2
 omega
theorem refJoin05_c (its:List jj) (st:List AObj) (hl:its.length<1000000000) (hr:(qct its).length≤1000000000000):qo E 94 [xi its] st fun r st'=>r=Sv (qct its)∧st'=st:=by
 refine zm [.a (xi its)] (qr _) Tryz.func94 rfl rfl (fun _=>rfl) rfl fun S0=>?_
 have hmi:(its.map wg).length=its.length:=by simp
 apply qd []
 repeat' (first|apply And.intro|(intro h;try exact cDd)|exact cSd|apply qb []|refine exr ?_|refine qh ?_)
 refine ji (X:=Nat) (fun k=>⟨[(0,.a (xi its)),(3,.s (qct (its.take k))),(4,.i k)],[],0⟩) (fun k=>k≤its.length) (fun k=>its.length - k) 0 (by omega) ?_ ?_
 ·skip
  repeat' (first|apply And.intro|(intro h;try exact cDd)|exact cSd|apply qb []|refine exr ?_|refine qh ?_)
  all_goals (simp [qct];done)
 ·rintro k hk
  by_cases hkn:k<its.length
  ·have hx:its[k]? = some its[k]:=List.getElem?_eq_getElem hkn
   have hxm:(its.map wg)[k]? = some (wg its[k]):=by rw [List.getElem?_map,hx];rfl
   have htk:its.take (k+1)=its.take k++[its[k]]:=by rw [List.take_add_one,hx];rfl
   have hrl:(qct (its.take k)).length+its[k].raw.length≤1000000000000:=by
    have h1:qct its=qct (its.take (k+1))++qct (its.drop (k+1)):=by rw [← qws,List.take_append_drop]
    rw [h1,htk,qws,qwt] at hr
    simp only [List.length_append] at hr
    omega
   generalize its[k]=x at hx hxm htk hrl
   apply qd []
   repeat' (first|apply And.intro|(intro h;try exact cDd)|(refine Exists.intro (k) ⟨by omega,_,hxm,?_⟩)|(refine Exists.intro (k+1) ⟨by omega,by omega,?_⟩)|exact cSd|apply qb []|refine exr ?_|refine qh ?_)
   all_goals first|(rw [htk,qws,qwt];done)|omega
  ·have hkn:k=its.length:=by omega
   subst hkn
   rw [List.take_length]
   apply qd []
   repeat' (first|apply And.intro|(intro h;try exact cDd)|exact cSd|apply qb []|refine exr ?_|refine qh ?_)
theorem refApart06_c (its:List jj) (st:List AObj) (hl:its.length≤1000000):qo E 95 [xi its] st fun r st'=>r=xi (apartF its)∧st'=st:=by
 refine zm [.a (xi its)] (qei _) Tryz.func95 rfl rfl (fun _=>rfl) rfl fun S0=>?_
 have hmi:(its.map wg).length=its.length:=by simp
 apply qd []
 repeat' (first|apply And.intro|(intro h;try exact cDd)|exact cSd|apply qb []|refine exr ?_|refine qh ?_)
 refine ji (X:=Nat×List jj) (fun (k,out)=>⟨[(0,.a (xi its)),(3,.tp 0),(4,.i k)],[(0,some (.tip 3 137 (out.map wg)))],1⟩)
  (fun (k,out)=>k≤its.length∧out.length≤2 * k∧∃ prev,(prev=true↔∃ y,0<k∧its[k - 1]? = some y∧y.kind≠1)∧out++apartFrom prev (its.drop k)=apartF its) (fun (k,out)=>its.length - k) (0,[]) ⟨by omega,by simp,false,by simp,rfl⟩ ?_ ?_
 ·skip
  repeat' (first|apply And.intro|(intro h;try exact cDd)|exact cSd|apply qb []|refine exr ?_|refine qh ?_)
  all_goals first|rfl|(simp;done)
 ·rintro⟨k,out⟩ ⟨hk,hol,prev,hpv,hrun⟩
  by_cases hkn:k<its.length
  ·have hx:its[k]? = some its[k]:=List.getElem?_eq_getElem hkn
   have hxm:(its.map wg)[k]? = some (wg its[k]):=by rw [List.getElem?_map,hx];rfl
   rw [List.drop_eq_getElem_cons hkn,apartFrom] at hrun
   generalize its[k]=x at hx hxm hrun
   have hml:(out.map wg).length=out.length:=by simp
   have hnext:(decide (x.kind≠1)=true↔∃ y,0<k+1∧its[k+1 - 1]? = some y∧y.kind≠1):=by
    rw [decide_eq_true_iff,Nat.add_sub_cancel,hx]
    constructor
    ·intro h
     exact⟨x,by omega,rfl,h⟩
    ·rintro⟨y,_,h1,h2⟩
     simp only [Option.some.injEq] at h1
     rw [h1]
     exact h2
   by_cases hk0:k=0
   ·have hp:¬ (prev=true):=fun h=>by
     obtain⟨_,h,_⟩:=hpv.1 h
     omega
    rw [if_neg (fun h=>hp h.1)] at hrun
    apply qd []
    repeat' (first|apply And.intro|(intro h;try exact cDd)|(refine Exists.intro (k) ⟨by omega,_,hxm,?_⟩)|(refine Exists.intro (k+1,out++[x]) ⟨⟨by omega,by simp;omega,_,hnext,by rw [← hrun];simp⟩,by simp only;omega,?_⟩)|exact cSd|apply qb []|refine exr ?_|refine qh ?_)
    all_goals first|(simp [SV.evs,SV.ev];done)|(simp [SV.evs];omega)
   ·obtain⟨y,hy⟩:∃ y,its[k - 1]? = some y:=⟨_,List.getElem?_eq_getElem (by omega:k - 1<its.length)⟩
    have hym:(its.map wg)[k - 1]? = some (wg y):=by rw [List.getElem?_map,hy];rfl
    have hpy:(prev=true↔y.kind≠1):=by
     rw [hpv]
     constructor
     ·rintro⟨z,_,h1,h2⟩
      rw [hy] at h1
      simp only [Option.some.injEq] at h1
      rw [h1]
      exact h2
     ·exact fun h=>⟨y,by omega,hy,h⟩
    by_cases hb:x.kind≠1∧y.kind≠1
    ·rw [if_pos ⟨hpy.2 hb.2,hb.1⟩] at hrun
     obtain⟨hb1,hb2⟩:=hb
     apply qd []
     repeat' (first|apply And.intro|(intro h;try exact cDd)|(refine Exists.intro (k - 1) ⟨by omega,_,hym,?_⟩)|(refine Exists.intro (k) ⟨by omega,_,hxm,?_⟩)|(refine Exists.intro (k+1,out++[⟨1,[10],[]⟩,x]) ⟨⟨by omega,by simp;omega,_,hnext,by rw [← hrun];simp⟩,by simp only;omega,?_⟩)|exact cSd|apply qb []|refine exr ?_|refine qh ?_)
     all_goals first|(simp [SV.evs,SV.ev];done)|(simp [SV.evs];omega)
    ·rw [if_neg (fun h=>hb ⟨h.2,hpy.1 h.1⟩)] at hrun
     apply qd []
     repeat' (first|apply And.intro|(intro h;try exact cDd)|(refine Exists.intro (k - 1) ⟨by omega,_,hym,?_⟩)|(refine Exists.intro (k) ⟨by omega,_,hxm,?_⟩)|(refine Exists.intro (k+1,out++[x]) ⟨⟨by omega,by simp;omega,_,hnext,by rw [← hrun];simp⟩,by simp only;omega,?_⟩)|exact absurd ⟨by assumption,by assumption⟩ hb|exact cSd|apply qb []|refine exr ?_|refine qh ?_)
     all_goals first|(simp [SV.evs,SV.ev];done)|(simp [SV.evs];omega)
  ·have hkn:k=its.length:=by omega
   subst hkn
   rw [List.drop_length,apartFrom,List.append_nil] at hrun
   rw [← hrun]
   apply qd []
   repeat' (first|apply And.intro|(intro h;try exact cDd)|exact cSd|apply qb []|refine exr ?_|refine qh ?_)
theorem refRender06_c (its:List jj) (st:List AObj) (hl:its.length≤1000000) (hr:(qct (apartF its)).length≤1000000000000):qo E 54 [xi its] st fun r st'=>r=Sv (qct (apartF its))∧st'=st:=by
 refine zm [.a (xi its)] (qr _) Tryz.func54 rfl rfl (fun _=>rfl) rfl fun S0=>?_
 have h1:=fun st=>refApart06_c its st hl
 have hal:=apart_len false its
 have h2:=fun st=>refJoin05_c (apartF its) st (by unfold apartF;omega) hr
 apply qd []
 repeat' (first|apply And.intro|(intro h;try exact cDd)|exact⟨Tryz.call95⟩|refine cpe h1 ?_|exact⟨Tryz.call94⟩|refine cpe h2 ?_|exact cSd|apply qb []|refine exr ?_|refine qh ?_)
theorem refItems07_c (l:q9) (st:List AObj) (hl:l.ents.length<1000000):qo E 55 [vq l] st fun r st'=>r=xi (itemsF l)∧st'=st:=by
 refine zm [.a (vq l)] (qei _) Tryz.func55 rfl rfl (fun _=>rfl) rfl fun S0=>?_
 have hmi:(l.ents.map entA).length=l.ents.length:=by simp
 have hil:(itemsF l).length=l.ents.length:=by simp [itemsF]
 apply qd []
 repeat' (first|apply And.intro|(intro h;try exact cDd)|exact cSd|apply qb []|refine exr ?_|refine qh ?_)
 refine ji (X:=Nat) (fun k=>⟨[(1,.a (.pp [qep l.ents,Iv l.next])),(3,.tp 0),(4,.i k)],[(0,some (.tip 3 137 (((itemsF l).take k).map wg)))],1⟩)
  (fun k=>k≤l.ents.length) (fun k=>l.ents.length - k) 0 (by omega) ?_ ?_
 ·skip
  repeat' (first|apply And.intro|(intro h;try exact cDd)|exact cSd|apply qb []|refine exr ?_|refine qh ?_)
  all_goals first|rfl|(simp;done)
 ·rintro k hk
  by_cases hkn:k<l.ents.length
  ·have hx:l.ents[k]? = some l.ents[k]:=List.getElem?_eq_getElem hkn
   have hxm:(l.ents.map entA)[k]? = some (entA l.ents[k]):=by rw [List.getElem?_map,hx];rfl
   have hxi:(itemsF l)[k]? = some l.ents[k].x:=by unfold itemsF;rw [List.getElem?_map,hx];rfl
   have htk:(itemsF l).take (k+1)=(itemsF l).take k++[l.ents[k].x]:=by rw [List.take_add_one,hxi];rfl
   have htl:(((itemsF l).take k).map wg).length≤k:=by simp;omega
   generalize l.ents[k]=e at hx hxm hxi htk
   apply qd []
   repeat' (first|apply And.intro|(intro h;try exact cDd)|(refine Exists.intro (k) ⟨by omega,_,hxm,?_⟩)|(refine Exists.intro (k+1) ⟨by omega,by omega,?_⟩)|exact cSd|apply qb []|refine exr ?_|refine qh ?_)
   all_goals first|(rw [htk];simp;done)|(simp [SV.evs];omega)
  ·have hkn:k=l.ents.length:=by omega
   subst hkn
   have e:(itemsF l).take l.ents.length=itemsF l:=List.take_of_length_le (by omega)
   rw [e]
   apply qd []
   repeat' (first|apply And.intro|(intro h;try exact cDd)|exact cSd|apply qb []|refine exr ?_|refine qh ?_)
theorem refText07_c (l:q9) (st:List AObj) (hl:l.ents.length<1000000) (hr:(textL l).length≤1000000000000):qo E 17 [vq l] st fun r st'=>r=Sv (textL l)∧st'=st:=by
 refine zm [.a (vq l)] (qr _) Tryz.func17 rfl rfl (fun _=>rfl) rfl fun S0=>?_
 have h1:=fun st=>refItems07_c l st hl
 have h2:=fun st=>refRender06_c (itemsF l) st (by simp [itemsF];omega) hr
 apply qd []
 repeat' (first|apply And.intro|(intro h;try exact cDd)|exact⟨Tryz.call55⟩|refine cpe h1 ?_|exact⟨Tryz.call54⟩|refine cpe h2 ?_|exact cSd|apply qb []|refine exr ?_|refine qh ?_)
theorem rtextF_ok {text:qa} (h:(vf text).1 = .no):BkB (vf text).2:=qyv (qql (text:=text) (b:=(vf text).2) (by rw [← h]))
def rtextR (q:ErrV×ve×q9):AV:=.tu [yt q.2.1,vq (if q.1 = .no then q.2.2 else⟨[],0,0⟩),Iv q.1.pos,Iv q.1.code]
theorem refText14_c (text:qa) (st:List AObj) (hl:text.length<1000000):qo E 13 [Sv text] st fun r st'=>r=rtextR (qi8 text)∧st'=st:=by
 refine zm [.s text] (qmm (qhu _) (qaa _) (qr _) (qr _)) Tryz.func13 rfl rfl (fun _=>rfl) rfl fun S0=>?_
 have hbr:=fun st=>q22 text st hl
 unfold qi8 rtextR
 by_cases hb:(vf text).1 = .no
 ·have hBk:=rtextF_ok hb
  have hpr:jr (vf text).2.base = .no:=(qql (text:=text) (b:=(vf text).2) (by rw [← hb])).parse
  simp only [if_pos hb]
  unfold qcu at hbr
  rw [hb] at hbr
  generalize (vf text).2=b at hbr hBk hpr
  have hof:=fun st=>q9m b st hBk
  have hlr:lR b b.batches.length=(ki b.base b.batches).2.l:=by unfold lR;rw [if_pos hpr,List.take_length]
  rw [hlr] at hof
  have hcd:=@q6c b.base b.batches
  generalize ki b.base b.batches=p at hof hcd
  obtain⟨e,r⟩:=p
  dsimp only at hof hcd ⊢
  by_cases he:e = .no
  ·subst he
   rw [if_pos rfl]
   apply qd []
   repeat' (first|apply And.intro|(intro h;try exact cDd)|exact⟨Tryz.call20⟩|refine cpe hbr ?_|exact⟨Tryz.call51⟩|refine cpe hof ?_|exact cSd|apply qb []|refine exr ?_|refine qh ?_)
  ·have hcd:=hcd he
   simp only [if_neg he]
   generalize e.code=c at hof hcd
   generalize e.pos=c2 at hof
   unfold qam
   apply qd []
   repeat' (first|apply And.intro|(intro h;try exact cDd)|exact⟨Tryz.call20⟩|refine cpe hbr ?_|exact⟨Tryz.call51⟩|refine cpe hof ?_|exact cSd|apply qb []|refine exr ?_|refine qh ?_)
 ·have hcd:=q47 hb
  simp only [if_neg hb]
  unfold qcu at hbr
  generalize (vf text).1.code=c at hbr hcd
  generalize (vf text).1.pos=c2 at hbr
  unfold qam
  apply qd []
  repeat' (first|apply And.intro|(intro h;try exact cDd)|exact⟨Tryz.call20⟩|refine cpe hbr ?_|exact cSd|apply qb []|refine exr ?_|refine qh ?_)
theorem rtextF_ok2 (text:qa):LB 860000 (qi8 text).2.2∧LI (qi8 text).2.2:=by
 have h0:LB 860000 (ofF [])∧LI (ofF []):=⟨⟨by omega,by simp [ofF],by simp [ofF],by simp [ofF],by simp [ofF],by simp [ofF]⟩,by simp [ofF,LI]⟩
 unfold qi8
 split
 ·rename_i hb
  have hBk:=rtextF_ok hb
  split
  ·have:=zck (vf text).2.base (vf text).2.batches hBk.len
   exact⟨this.1,this.2.2⟩
  ·exact h0
 ·exact h0
theorem okE_of {e:ErrV} (h:e≠.no→e.code≠0):okE e:=by
 cases e with
 |no=>trivial
 |num n=>exact h (by simp)
 |at' a n=>exact h (by simp)
theorem rtextF_code {text:qa} (h:(qi8 text).1≠.no):(qi8 text).1.code≠0:=by
 unfold qi8 at h ⊢
 split
 ·rename_i hb
  rw [if_pos hb] at h
  split
  ·rename_i hp
   rw [if_pos hp] at h
   exact absurd rfl h
  ·rename_i hp
   exact q6c hp
 ·rename_i hb
  exact q47 hb
theorem replayTexts_c (text:qa) (st:List AObj):qo E 3 [Sv text] st fun r st'=>r=Bv true∧st'=st:=by
 refine zm [.s text] (qr _) Tryz.func3 rfl rfl (fun _=>rfl) rfl fun S0=>?_
 have hal:=q67
 by_cases h5:5000<text.length
 ·apply qd []
  repeat' (first|apply And.intro|(intro h;try exact cDd)|exact⟨Tryz.call11⟩|refine cpe hal ?_|exact cSd|apply qb []|refine exr ?_|refine qh ?_)
 have hrt:=fun st=>zfl text st (by omega)
 have hrf:=fun st=>refText14_c text st (by omega)
 obtain⟨hB,hI⟩:=rtextF_ok2 text
 have hok:=okE_of (@rtextF_code text)
 unfold qtq at hrt
 unfold rtextR at hrf
 generalize qi8 text=q at hrt hrf hB hI hok
 obtain⟨e,b,l⟩:=q
 dsimp only at hrt hrf hB hI hok
 have hnm:=fun st=>numE_c e st hok
 have hat:=fun st=>atE_c e st
 cases e with
 |no=>
  have ht:=fun st=>ltext_c l st (itsB_of hB hI) (textL_le hB hI)
  have hr:=fun st=>refText07_c l st (by have:=hB.len;omega) (textL_le hB hI)
  have hn:=fun st=>ze1 l st
  rw [if_pos rfl] at hrf
  apply qd []
  repeat' (first|apply And.intro|(intro h;try exact cDd)|exact⟨Tryz.call11⟩|refine cpe hal ?_|exact⟨Tryz.call12⟩|refine cpe hrt ?_|exact⟨Tryz.call13⟩|refine cpe hrf ?_|exact⟨Tryz.call14⟩|refine cpe hnm ?_|exact⟨Tryz.call15⟩|refine cpe hat ?_|exact⟨Tryz.call16⟩|refine cpe ht ?_|exact⟨Tryz.call17⟩|refine cpe hr ?_|exact⟨Tryz.call18⟩|refine cpe hn ?_|exact cSd|apply qb []|refine exr ?_|refine qh ?_)
  all_goals (simp;done)
 |num n=>
  have hn0:n≠0:=hok
  rw [if_neg (by simp)] at hrf
  apply qd []
  repeat' (first|apply And.intro|(intro h;try exact cDd)|exact⟨Tryz.call11⟩|refine cpe hal ?_|exact⟨Tryz.call12⟩|refine cpe hrt ?_|exact⟨Tryz.call13⟩|refine cpe hrf ?_|exact⟨Tryz.call14⟩|refine cpe hnm ?_|exact⟨Tryz.call15⟩|refine cpe hat ?_|exact cSd|apply qb []|refine exr ?_|refine qh ?_)
  all_goals exact absurd (by assumption:(ErrV.num n).code=0) hn0
 |at' a n=>
  have hn0:n≠0:=hok
  rw [if_neg (by simp)] at hrf
  apply qd []
  repeat' (first|apply And.intro|(intro h;try exact cDd)|exact⟨Tryz.call11⟩|refine cpe hal ?_|exact⟨Tryz.call12⟩|refine cpe hrt ?_|exact⟨Tryz.call13⟩|refine cpe hrf ?_|exact⟨Tryz.call14⟩|refine cpe hnm ?_|exact⟨Tryz.call15⟩|refine cpe hat ?_|exact cSd|apply qb []|refine exr ?_|refine qh ?_)
  all_goals exact absurd (by assumption:(ErrV.at' a n).code=0) hn0
end Go.Proofs.YtmoklbacdkmkaaaGreatDoor
