/- Contracts and plain facts that the closing text leans on (part 9). No condition of their own beyond those that each states. -/
import Derived.Test.YtneejjefekdgjaaGreatDoorK8
import Derived.Deep.Slices
import Derived.Deep.Fields
import Derived.WideKeyArgs
import Derived.Laws.StructEq
set_option maxRecDepth 100000
set_option linter.unusedVariables false
set_option linter.unusedSimpArgs false
namespace Go.Av
open Go Go.RowKit
section
variable {E : Env} {rd : Option Nat} {N : Nat} {ops : Array Oper} {K : AS → Prop} {s : AS} {rest : List Oper} {d : Option Tmp} {T : TypeId} {p : String} {af : Array Edge}
def notIf:TypeDesc→Bool
 | .interface _=>false
 | _=>true
def zeroV (P:Program) (t:TypeId):Option Value:=match P.info? t with|some i=>i.zero|none=>none
theorem zeroV_run {P:Program} {t:TypeId} {z:Value} (h:zeroV P t=some z) (w:World):(zeroValue t).run P w = .ok z w:=by
 unfold zeroV at h
 split at h
 ·rename_i i hi
  simp [zeroValue,typeInfo,hi,h]
 ·simp at h
theorem aops_assertHit {x:Operand} {xt t:TypeId} {D:TypeDesc} {y:AV} (hx:qe N s x = .ifc t y) (hu:E.P.underlying t=some D) (hn:notIf D=true)
  (h:AOps E rd N ops rest K (s.put d (.tu [y,Bv true]))):AOps E rd N ops (⟨d,.typeAssert x xt t true,T,p,af,none⟩::rest) K s:=by
 refine qy rfl (qw nofun fun B0 w0 G a w _ hI=>?_)
 have he:=hI.eval_of hx
 generalize hv:a.eval x=v at he
 cases he with
 |ifc _ _ z hz=>
  refine⟨.tuple #[z,.bool true],w,G,_,s.st,?_,.refl G,hI.agree,qiy hz (.v _),h⟩
  generalize a.eval = ρ at hv
  cases D <;> first|(simp [notIf] at hn;done)|simp [execOp,Instr.typeAssert,hv,run_underlying hu]
theorem aops_assertMiss {x:Operand} {xt t u:TypeId} {D:TypeDesc} {y:AV} {z:Value} (hx:qe N s x = .ifc u y) (hu:E.P.underlying t=some D) (hn:notIf D=true) (hne:Nat.beq u t=false) (hz:zeroV E.P t=some z)
  (h:AOps E rd N ops rest K (s.put d (.tu [.v z,Bv false]))):AOps E rd N ops (⟨d,.typeAssert x xt t true,T,p,af,none⟩::rest) K s:=by
 refine qy rfl (qw nofun fun B0 w0 G a w _ hI=>?_)
 have he:=hI.eval_of hx
 generalize hv:a.eval x=v at he
 have hne':u≠t:=fun e=>by subst e;simp at hne
 have hz':=zeroV_run hz w
 cases he with
 |ifc _ _ q hq=>
  refine⟨.tuple #[z,.bool false],w,G,_,s.st,?_,.refl G,hI.agree,qiy (.v _) (.v _),h⟩
  generalize a.eval = ρ at hv
  cases D <;> first|(simp [notIf] at hn;done)|simp [execOp,Instr.typeAssert,hv,run_underlying hu,hne',hz']
end
end Go.Av
namespace Go.Proofs.YtneejjefekdgjaaGreatDoor
open Go Go.Av Go.RowKit Go.Proofs Go.Pl
theorem flds_get {xs:List FldV} {k:Nat} (hk:k<xs.length):(xs.map fldA)[k]? = some (fldA (xs.getD k ([],[]))):=by
 simp [List.getD,hk]
end Go.Proofs.YtneejjefekdgjaaGreatDoor
namespace Go.Av
open Go Go.RowKit Go.WideShapes Go.ChangeShapes Go.Deep
def fieldsOf (P:Program) (t:TypeId):Array Field:=match P.underlying t with|some (.struct fs)=>fs | _=> #[]
end Go.Av
namespace Go.Proofs.YtneejjefekdgjaaGreatDoor
open Go Go.Av Go.RowKit Go.Proofs Go.Pl
def okE:ErrV→Prop
 | .no=>True
 | .num n=>n≠0
 | .at' _ n=>n≠0
theorem numE_c (e:ErrV) (st:List AObj) (he:okE e):ql E 16 [errA e] st fun r st'=>r=Iv e.code∧st'=st:=by
 refine q6 (qu _) (qp Tryz.func16 rfl (Nat.le_of_ble_eq_true rfl) ?_)
 cases e with
 |no=>
  repeat' (first|apply qm|apply q8|apply qg|apply qf|apply qk|apply qh)
  refine wy (fun (k:Unit) s=>StA [(0,.v .nilIface),(7,Iv 0)] (st++[]) [] s) (fun k=>0) () (wa ⟨rfl,rfl,trivial⟩) ?_
  rintro k _ ⟨t,rfl⟩
  repeat' (first|apply qm|apply q8|apply qg|apply qf|apply qk|apply qh|(apply q5;(iterate 3 exact rfl))|(apply qc;exact rfl;apply xm;exact cAo)|(apply qc;exact rfl;apply cd_t;exact cRa)|(apply qfj;exact rfl;exact rfl)|apply qz|apply qx)
  exact qo rfl (zi rfl) ⟨rfl,_,rfl⟩
 |num n=>
  have hk:n≠0:=he
  repeat' (first|apply qm|apply q8|apply qg|apply qf|apply qk|apply qh)
  refine wy (fun (k:Unit) s=>StA [(0,errA (.num n)),(7,Iv 0)] (st++[]) [] s) (fun k=>0) () (wa ⟨rfl,rfl,trivial⟩) ?_
  rintro k _ ⟨t,rfl⟩
  repeat' (first|apply qm|apply q8|apply qg|apply qf|apply qk|apply qh|(apply ze;exact rfl;exact rfl)|(apply q5;(iterate 3 exact rfl))|(apply za;(iterate 4 exact rfl))|(apply qc6;exact cRa)|(apply qn;exact rfl;apply pk_t;exact cRa)|(apply qc;exact rfl;apply xm;exact cAo)|(apply qc;exact rfl;apply cd_f;exact cRa)|(apply qfh;exact rfl;exact rfl)|apply qz|apply qx|(apply aops_assertHit;(iterate 3 exact rfl)))
  exact qo rfl (zi rfl) ⟨rfl,_,rfl⟩
 |at' a n=>
  have hk:n≠0:=he
  repeat' (first|apply qm|apply q8|apply qg|apply qf|apply qk|apply qh)
  refine wy (fun (j:Nat) s=>(j=0∧StA [(0,errA (.at' a n)),(7,Iv 0)] (st++[]) [] s)∨(j=1∧StA [(0,errA (.num n)),(7,Iv 1)] (st++[]) [] s)) (fun j=>1 - j) 0 (.inl ⟨rfl,wa ⟨rfl,rfl,trivial⟩⟩) ?_
  rintro j _ (⟨rfl,t,rfl⟩ | ⟨rfl,t,rfl⟩)
  ·skip
   repeat' (first|apply qm|apply q8|apply qg|apply qf|apply qk|apply qh|(apply ze;exact rfl;exact rfl)|(apply q5;(iterate 3 exact rfl))|(apply jf;exact rfl)|(apply za;(iterate 4 exact rfl))|(apply qas;exact cRa)|(apply qgy;exact cRa)|(apply qbz;exact cRa)|(apply qn;exact rfl;apply qf9;exact cRa)|(apply qn;exact rfl;apply pk_f;exact cRa)|(apply qc;exact rfl;apply xm;exact cAo)|(apply qc;exact rfl;apply cd_f;exact cRa)|(apply z7;exact rfl;exact rfl;exact zj (by omega) (by omega))|(apply qfh;exact rfl;exact rfl)|(apply qai;(iterate 4 exact rfl))|(apply jv;(iterate 3 exact rfl))|(apply wv;exact rfl;exact rfl)|(apply qa9;(iterate 3 exact rfl))|apply qz|(apply aops_assertMiss;(iterate 5 exact rfl))|(apply aops_assertHit;(iterate 3 exact rfl)))
   exact⟨1,.inr ⟨rfl,wa ⟨rfl,rfl,trivial⟩⟩,by omega⟩
  ·skip
   repeat' (first|apply qm|apply q8|apply qg|apply qf|apply qk|apply qh|(apply ze;exact rfl;exact rfl)|(apply q5;(iterate 3 exact rfl))|(apply za;(iterate 4 exact rfl))|(apply qc6;exact cRa)|(apply qn;exact rfl;apply pk_t;exact cRa)|(apply qc;exact rfl;apply xm;exact cAo)|(apply qc;exact rfl;apply cd_f;exact cRa)|(apply qfh;exact rfl;exact rfl)|apply qz|apply qx|(apply aops_assertHit;(iterate 3 exact rfl)))
   exact qo rfl (zi rfl) ⟨rfl,_,rfl⟩
theorem isE_c (e:ErrV) (w:Int) (st:List AObj) (he:okE e):ql E 28 [errA e,Iv w] st fun r st'=>r=Bv (decide (e.code=w))∧st'=st:=by
 refine q6 (qu _) (qp Tryz.func28 rfl (Nat.le_of_ble_eq_true rfl) ?_)
 repeat' (first|apply qm|apply qg|apply qf|apply qk|apply qh|(apply q5;(iterate 3 exact rfl))|apply qx|(apply qi;exact Tryz.call16;exact numE_c _ _ he))
 exact qo rfl (zi rfl) ⟨rfl,_,rfl⟩
theorem fieldsF : (Tryz.prog.fieldsOf 111).toList = [⟨ "Key", 9, 0, false, "", "", 0⟩, ⟨ "Value", 9, 1, false, "", "", 16⟩] := by kernel_rfl
theorem eqF_run (a b c d:ByteArray) (w:World):(Op.equalIn 10000 111 (.agg #[.string a,.string b]) (.agg #[.string c,.string d])).run Tryz.prog w = .ok (a.toList == c.toList && b.toList == d.toList) w:=by
 rw [run_equalIn_agg w 9999 111 _ _ (by kernel_rfl) (by kernel_rfl),fieldsF]
 have p1:∀ (x y:ByteArray) w,(part 9 #[.string x,.string y] 0).run Tryz.prog w = .ok (.string x) w:=fun x y w=>by kernel_rfl
 have p2:∀ (x y:ByteArray) w,(part 9 #[.string x,.string y] 1).run Tryz.prog w = .ok (.string y) w:=fun x y w=>by kernel_rfl
 have hs:∀ (x y:ByteArray) w,(Op.equalIn 9999 9 (.string x) (.string y)).run Tryz.prog w = .ok (x.toList == y.toList) w:=fun x y w=>run_equalIn_string w 9998 9 x y (by kernel_rfl)
 simp only [Op.eqFields,Sem.run_bind,Sem.run_ite,p1,p2,hs,Result.andThen_ok,Sem.run_pure]
 cases hac:(a.toList == c.toList) <;> cases hbd:(b.toList == d.toList) <;> simp
theorem rel_fld {G:Gh} {f:Fld} {v:Value} (h:Rel G (fldA f) v):v = .agg #[.string ⟨f.1.toArray⟩,.string ⟨f.2.toArray⟩]:=by
 cases h with
 |ag _ vs hl h=>
  match vs,hl with
  | ⟨[x,y]⟩,_=>
   have h1:=h 0 _ x rfl rfl
   have h2:=h 1 _ y rfl rfl
   cases h1
   cases h2
   rfl
theorem neF_val (f g:Fld) (w:World):(binOp .neq 111 (.agg #[.string ⟨f.1.toArray⟩,.string ⟨f.2.toArray⟩]) (.agg #[.string ⟨g.1.toArray⟩,.string ⟨g.2.toArray⟩])).run Tryz.prog w = .ok (.bool (decide (f≠g))) w:=by
 rw [run_neq_struct,eqF_run]
 simp only [Result.andThen_ok,ByteArray.toList_eq]
 obtain⟨a,b⟩:=f
 obtain⟨c,d⟩:=g
 congr 2
 by_cases h1:a=c <;> by_cases h2:b=d <;> simp [h1,h2]
section
variable {N : Nat} {ops : Array Oper} {K : AS → Prop} {s : AS} {rest : List Oper} {d : Option Tmp} {T : TypeId} {p : String} {af : Array Edge}
theorem aq_neF {x y:Operand} {t':TypeId} {f g:Fld} {b:Bool} (hx:qe N s x=fldA f) (hy:qe N s y=fldA g) (hb:decide (f≠g)=b)
  (h:AQ E N ops rest K (s.put d (Bv b))):AQ E N ops (⟨d,.binOp .neq 111 x y t',T,p,af,none⟩::rest) K s:=by
 subst hb
 refine qcx rfl nofun fun B0 w0 G a w _ hI=>⟨.bool (decide (f≠g)),_,fun w' _=>?_,.v _,h⟩
 have h1:=rel_fld (hI.eval_of hx)
 have h2:=rel_fld (hI.eval_of hy)
 generalize a.eval = ρ at h1 h2
 have hg:(eqGuard .neq 111 x y (.agg #[.string ⟨f.1.toArray⟩,.string ⟨f.2.toArray⟩]) (.agg #[.string ⟨g.1.toArray⟩,.string ⟨g.2.toArray⟩])).run Tryz.prog w' = .ok () w':=run_eqGuard_agg w' _ _ _ _ _ _ (by kernel_rfl)
 simp [execOp,h1,h2,hg,neF_val]
end
theorem fieldsN_c (a b:List Fld) (st:List AObj) (ha:a.length<9223372036854775808):ql E 26 [vm a,vm b] st fun r st'=>r=Bv (decide (a=b))∧st'=st:=by
 refine q6 (qu _) (qp Tryz.func26 rfl (Nat.le_of_ble_eq_true rfl) ?_)
 have hma:(a.map fldA).length=a.length:=by simp
 have hmb:(b.map fldA).length=b.length:=by simp
 by_cases hl:a.length=b.length
 ·skip
  repeat' (first|apply qm|apply q8|apply qg|apply qf|apply qk|apply qh|(apply q5;(iterate 3 exact rfl))|(apply qc;exact rfl;apply xl;exact cAo)|(apply jp;(iterate 4 exact rfl))|apply qz)
  refine wy (fun (k:Nat) s=>k≤a.length∧a.take k=b.take k∧StE [(0,vm a),(1,vm b),(12,Iv a.length),(13,Iv k)] st [] s) (fun k=>a.length - k) 0 ⟨by omega,by simp,qi1 ⟨rfl,rfl,congrArg (fun n:Nat=>Iv (n:Int)) hma,rfl,trivial⟩ rfl⟩ ?_
  rintro k _ ⟨hk,ht,t,ext,rfl⟩
  by_cases hc:k<a.length
  ·by_cases he:a.getD k ([],[])=b.getD k ([],[])
   ·have hn:decide (a.getD k ([],[])≠b.getD k ([],[]))=false:=decide_eq_false fun h=>h he
    repeat' (first|apply qm|apply q8|apply qg|apply qf|apply qk|apply qh|(apply q5;(iterate 3 exact rfl))|(apply qc;exact rfl;apply xm;exact cAo)|(apply qc;exact rfl;apply cd_f;exact cRa)|(apply z7;exact rfl;exact rfl;exact zj (by omega) (by omega))|(apply qu6;exact rfl;kernel_rfl)|apply qpf|(apply qpe;(iterate 3 exact rfl))|apply qma|apply qz|(apply qu4 (n:=k);(iterate 5 exact rfl);exact flds_get (xs:=a) (by omega))|(apply qu4 (n:=k);(iterate 5 exact rfl);exact flds_get (xs:=b) (by omega))|(apply aq_neF;exact rfl;exact rfl;exact hn))
    exact⟨k+1,⟨by omega,ql2 hl hc ht he,qfg ⟨rfl,rfl,rfl,rfl,trivial⟩ rfl⟩,by omega⟩
   ·have hn:decide (a.getD k ([],[])≠b.getD k ([],[]))=true:=decide_eq_true he
    have hab:¬ a=b:=fun e=>he (by rw [e])
    repeat' (first|apply qm|apply q8|apply qg|apply qf|apply qk|apply qh|(apply q5;(iterate 3 exact rfl))|(apply qc;exact rfl;apply xm;exact cAo)|(apply qc;exact rfl;apply cd_t;exact cRa)|(apply qu6;exact rfl;kernel_rfl)|apply qpf|(apply qpe;(iterate 3 exact rfl))|apply qma|apply qz|apply qx|(apply qu4 (n:=k);(iterate 5 exact rfl);exact flds_get (xs:=a) (by omega))|(apply qu4 (n:=k);(iterate 5 exact rfl);exact flds_get (xs:=b) (by omega))|(apply aq_neF;exact rfl;exact rfl;exact hn))
    exact qo rfl (zi rfl) ⟨congrArg Bv (decide_eq_false hab).symm,qdg _ _ _ _⟩
  ·have hab:a=b:=by
    have e:k=a.length:=by omega
    rw [e,List.take_length,List.take_of_length_le (by omega)] at ht
    exact ht
   repeat' (first|apply qm|apply qg|apply qf|apply qh|(apply q5;(iterate 3 exact rfl))|(apply qc;exact rfl;apply xl;exact cAo)|apply vj|apply qx)
   exact qo rfl (zi rfl) ⟨congrArg Bv (decide_eq_true hab).symm,qdg _ _ _ _⟩
 ·have hab:¬ a=b:=fun e=>hl (by rw [e])
  repeat' (first|apply qm|apply qg|apply qf|apply qk|apply qh|(apply q5;(iterate 3 exact rfl))|(apply qc;exact rfl;apply xm;exact cAo)|(apply jp;(iterate 4 exact rfl))|apply qx)
  exact qo rfl (zi rfl) ⟨congrArg Bv (decide_eq_false hab).symm,_,rfl⟩
end Go.Proofs.YtneejjefekdgjaaGreatDoor
namespace Go.Proofs.YtneejjefekdgjaaGreatDoor
open Go Go.Av Go.RowKit Go.Proofs Go.Pl
theorem lnext_c (l:qs) (st:List AObj):ql E 27 [jx l] st fun r st'=>r=Iv l.next∧st'=st:=by
 refine z4 [.a (jx l)] (qu _) Tryz.func27 rfl rfl (fun _=>rfl) rfl fun S0=>?_
 apply qd []
 repeat' (first|apply And.intro|(intro h;try exact cDd)|exact cSd|apply qb []|refine exr ?_|refine qj ?_)
end Go.Proofs.YtneejjefekdgjaaGreatDoor
namespace Go.Pl
open Go Go.Proofs Go.Proofs.YtneejjefekdgjaaGreatDoor
theorem apart_again:∀ (its:List qt) (prev:Bool),SepI its→(prev=true→∀ x,its.head? = some x→x.kind=1)→z8 prev its=its
 | [],prev,_,_=>rfl
 |x::r,prev,h,hp=>by
  rw [z8,if_neg fun hh=>hh.2 (hp hh.1 x rfl)]
  rw [apart_again r _ ?_ ?_]
  ·rfl
  ·cases r with
   |nil=>trivial
   |cons y q=>exact h.2
  ·intro hk y hy
   cases r with
   |nil=>simp at hy
   |cons z q=>
    simp at hy
    subst hy
    exact h.1 (by simpa using hk)
theorem apart_twice (its:List qt):wg (wg its)=wg its:=apart_again _ false (qsg its false).1 (by simp)
theorem itemsF_of (its:List qt):zk (ofF its)=its:=by
 have key:∀ (its:List qt) (l:qs),zk (its.foldl vq l)=zk l++its:=by
  intro its
  induction its with
  |nil=>simp
  |cons x r ih=>intro l;rw [List.foldl_cons,ih,qyd];simp
 have:=key its ⟨[],1,0⟩
 exact this
theorem text_again {l:qs} (h:GL l):jj (ofF (zn (jj l)).2)=jj l:=by
 rw [qtr h]
 unfold jj
 rw [itemsF_of,apart_twice]
theorem recI_len (its:List qt):(recI its).length=cntI its:=by
 unfold recI cntI
 rw [List.countP_eq_length_filter]
theorem textL_next {l:qs} (h:GL l):(ofF (zn (jj l)).2).next=((stzF l.ents).length:Int)+1:=by
 rw [qtr h,zax]
 have h1:=qj1 (zk l) false
 have h2:=congrArg List.length (q8p h)
 unfold Go.Proofs.YtneejjefekdgjaaGreatDoor.recsF at h2
 rw [List.length_map,List.length_map] at h2
 rw [h2]
 have h3:=recI_len (wg (zk l))
 unfold wg at h3 ⊢
 rw [h1] at h3
 unfold recI at h3
 simp only
 omega
theorem fresh_again {l:qs} {n:Int} (h:GL l) (hg:jn n) (hl:(jj l).length≤60000):qbw (kc n++jj l)=if n=2147483648 then (.num 1,[]) else (.no,kc (n+1)++jj l):=by
 rw [q3r,q08 h hg hl]
 dsimp only
 rw [if_pos rfl,text_again h,if_neg (by omega:¬ 60000<(jj l).length)]
end Go.Pl
namespace Go.Proofs.YtneejjefekdgjaaGreatDoor
open Go Go.Av Go.RowKit Go.Proofs Go.Pl
set_option maxHeartbeats 4000000 in
theorem compactPlain_c (text:qa) (st:List AObj):ql E 4 [Sv text] st fun r st'=>r=Bv true∧st'=st:=by
 refine z4 [.s text] (qu _) Tryz.func4 rfl rfl (fun _=>rfl) rfl fun S0=>?_
 have hal:=q2i
 by_cases h5:5000<text.length
 ·apply qd []
  repeat' (first|apply And.intro|(intro h;try exact cDd)|exact⟨Tryz.call11⟩|refine cpe hal ?_|exact cSd|apply qb []|refine exr ?_|refine qj ?_)
 have hrt:=fun st=>qmn text st (by omega)
 have hfr:=fun st=>qve text st (by omega)
 have hok:=@q66 text (by omega)
 obtain⟨hB,hI⟩:=qd3 text
 unfold qiz at hrt
 generalize qbw text=p at *
 generalize zg text=q at *
 obtain⟨e,b,l⟩:=q
 obtain⟨e2,s⟩:=p
 dsimp only at *
 cases e with
 |num n=>
  cases e2
  all_goals
   apply qd []
   repeat' (first|apply And.intro|(intro h;try exact cDd)|exact⟨Tryz.call11⟩|refine cpe hal ?_|exact⟨Tryz.call21⟩|refine cpe hrt ?_|exact⟨Tryz.call12⟩|refine cpe hfr ?_|exact cSd|apply qb []|refine exr ?_|refine qj ?_)
 |at' a n=>
  cases e2
  all_goals
   apply qd []
   repeat' (first|apply And.intro|(intro h;try exact cDd)|exact⟨Tryz.call11⟩|refine cpe hal ?_|exact⟨Tryz.call21⟩|refine cpe hrt ?_|exact⟨Tryz.call12⟩|refine cpe hfr ?_|exact cSd|apply qb []|refine exr ?_|refine qj ?_)
 |no=>
 cases e2 with
 |num n=>
  apply qd []
  repeat' (first|apply And.intro|(intro h;try exact cDd)|exact⟨Tryz.call11⟩|refine cpe hal ?_|exact⟨Tryz.call21⟩|refine cpe hrt ?_|exact⟨Tryz.call12⟩|refine cpe hfr ?_|exact cSd|apply qb []|refine exr ?_|refine qj ?_)
 |at' a n=>
  apply qd []
  repeat' (first|apply And.intro|(intro h;try exact cDd)|exact⟨Tryz.call11⟩|refine cpe hal ?_|exact⟨Tryz.call21⟩|refine cpe hrt ?_|exact⟨Tryz.call12⟩|refine cpe hfr ?_|exact cSd|apply qb []|refine exr ?_|refine qj ?_)
 |no=>
 obtain⟨n,hn,hG,hs,hF⟩:=hok rfl rfl
 have hll:=hB.len
 have hsl:=hF.len
 have hbr:=fun st=>qy6 s st (by omega)
 rw [hF.book] at hbr
 replace hbr:∀ st,ql E 22 [Sv s] st fun r st'=>r = .tu [.ag [Iv n,Sv (jj l),qd9 [],qbn [],Sv []],errA .no]∧st'=st:=hbr
 have hsp:=fun st=>qlx s st (by omega)
 rw [hF.parse] at hsp
 have hfx:∀ x∈itsE s,x.fields.length<1000000:=fun x hx=>by have:=(zam s).2 x hx;omega
 have hstz:=fun st=>q5j (itsE s) st (by have:=qv9 s;omega) hfx
 rw [hF.recs] at hstz
 have hi2:2≤(itsE s).length:=by rw [hF.items];simp
 have hi0:((itsE s).map vh)[0]? = some (.ag [Iv 2,Sv (genL++Lib.itoa n++[10]),vm []]):=by rw [hF.items];rfl
 have hml:((itsE s).map vh).length=(itsE s).length:=by simp
 have hst:=fun st=>qqc l st (by omega) fun e he=>by have:=(hI e he).2;omega
 have hzb:(stzF l.ents).length<1000000:=by have:=qop l.ents;omega
 have hzf:∀ x∈stzF l.ents,x.2.length<900000:=fun x hx=>by
  unfold stzF at hx
  obtain⟨e,he,rfl⟩:=List.mem_map.1 hx
  exact (hI e (List.mem_filter.1 he).1).2
 have hr2:=fun st=>qmn s st (by omega)
 rw [hF.rtext] at hr2
 replace hr2:∀ st,ql E 21 [Sv s] st fun r st'=>r = .tu [qb8 ⟨n,jj l,[],[],[]⟩,jx (ofF (zn (jj l)).2),errA .no]∧st'=st:=hr2
 have hnx:=fun st=>lnext_c (ofF (zn (jj l)).2) st
 rw [textL_next hG] at hnx
 have hf2:=fun st=>qve s st (by omega)
 have hag:=fresh_again hG hF.gen (by have h1:=congrArg List.length hs;simp at h1;omega)
 rw [← hs] at hag
 rw [hag] at hf2
 have htk:=fun st=>zae s st (by omega)
 rw [hF.take] at htk
 have htl:(jj l).length≤60000:=by have h1:=congrArg List.length hs;simp at h1;omega
 have hgn:=hF.gen
 have hif:n≠2147483648→xa (kc (n+1)++jj l)=(n+1,jj l)∧(kc (n+1)++jj l).length<1000000:=fun hne=>by
  have hg2:jn (n+1):=by unfold jn at hgn ⊢;omega
  have hB:=qpz (qn4 hG hg2 htl) (by unfold jn at hg2;omega) htl
  have:=hB.gen
  have h3:=q7h hg2
  exact⟨by simpa [ke] using this,by simp;omega⟩
 have hgn:0≤n∧n≤2147483648:=by unfold jn at hgn;omega
 have htk2:=fun h st=>zae (kc (n+1)++jj l) st h
 have his:=fun st=>isE_c (.num 1) 1 st (by simp [okE])
 rw [decide_eq_true (show (ErrV.num 1).code=1 from rfl)] at his
 subst hn
 clear hag hF hok
 generalize (zn (jj l)).2=pi at *
 generalize ofF pi=m at *
 generalize itsE s=its at *
 generalize genL++Lib.itoa (b.gen+1)++[10]=raw0 at *
 generalize kc (b.gen+1+1)++jj l=t at *
 generalize jj l=tl at *
 generalize stzF l.ents=z at *
 have hmz:(z.map stzA).length=z.length:=by simp
 have hmr:((z.map Prod.snd).map vm).length=z.length:=by simp
 apply qd []
 repeat' (first|apply And.intro|(intro h;try exact cDd)|exact⟨Tryz.call11⟩|refine cpe hal ?_|exact⟨Tryz.call21⟩|refine cpe hrt ?_|exact⟨Tryz.call12⟩|refine cpe hfr ?_|exact⟨Tryz.call22⟩|refine cpe hbr ?_|exact⟨Tryz.call23⟩|refine cpe hsp ?_|exact⟨Tryz.call24⟩|refine cpe hstz ?_|exact⟨Tryz.call25⟩|refine cpe hst ?_|(refine Exists.intro (0) ⟨by omega,_,hi0,?_⟩)|exact cSd|apply qb []|refine exr ?_|refine qj ?_)
 refine wm (X:=Nat) (fun k=>⟨[(6,.s s),(8,.bx 0 0),(10,.a (q88 (z.map Prod.snd))),(11,.a (qum z)),(99,.i z.length),(100,.i k)],[(0,some (.cells 41 [.i (b.gen+1),.s tl,.a (qd9 []),.a (qbn []),.s []]))],1⟩) (fun k=>k≤z.length) (fun k=>z.length - k) 0 (by omega) ?_ ?_
 ·skip
  repeat' (first|apply And.intro|(intro h;try exact cDd)|exact cSd|apply qb []|refine exr ?_|refine qj ?_)
  all_goals first|rfl|(intro ρ;rfl)|assumption|(simp;done)|(simp [SV.rens,SV.ren];done)|(trace_state;done)
 ·rintro k hk
  by_cases hkn:k<z.length
  ·have hx:z[k]? = some z[k]:=List.getElem?_eq_getElem hkn
   have hxm:(z.map stzA)[k]? = some (stzA z[k]):=by rw [List.getElem?_map,hx];rfl
   have hxr:((z.map Prod.snd).map vm)[k]? = some (vm z[k].2):=by rw [List.getElem?_map,List.getElem?_map,hx];rfl
   have hzl:=hzf _ (List.getElem_mem hkn)
   generalize z[k]=x at hx hxm hxr hzl
   have hfe:=fun st=>fieldsN_c x.2 x.2 st (by omega)
   rw [decide_eq_true rfl] at hfe
   apply qd []
   repeat' (first|apply And.intro|(intro h;try exact cDd)|(refine Exists.intro (k) ⟨by omega,_,hxm,?_⟩)|(refine Exists.intro (k) ⟨by omega,_,hxr,?_⟩)|exact⟨Tryz.call26⟩|refine cpe hfe ?_|(refine Exists.intro (k+1) ⟨by omega,by omega,?_⟩)|exact cSd|apply qb []|refine exr ?_|refine qj ?_)
   all_goals first|rfl|(simp;done)|(simp [SV.rens,SV.ren];done)
  ·have hkn:k=z.length:=by omega
   subst hkn
   by_cases hne:b.gen+1=2147483648
   ·rw [if_pos hne] at hf2
    apply qd []
    repeat' (first|apply And.intro|(intro h;try exact cDd)|exact⟨Tryz.call21⟩|refine cpe hr2 ?_|exact⟨Tryz.call27⟩|refine cpe hnx ?_|exact⟨Tryz.call12⟩|refine cpe hf2 ?_|exact⟨Tryz.call28⟩|refine cpe his ?_|exact cSd|apply qb []|refine exr ?_|refine qj ?_)
    all_goals first|(simp;done)|(simp at *;omega)|omega
   ·rw [if_neg hne] at hf2
    obtain⟨g1,g2⟩:=hif hne
    replace htk2:=htk2 g2
    rw [g1] at htk2
    apply qd []
    repeat' (first|apply And.intro|(intro h;try exact cDd)|exact⟨Tryz.call21⟩|refine cpe hr2 ?_|exact⟨Tryz.call27⟩|refine cpe hnx ?_|exact⟨Tryz.call12⟩|refine cpe hf2 ?_|exact⟨Tryz.call29⟩|refine cpe htk ?_|exact⟨Tryz.call29⟩|refine cpe htk2 ?_|exact cSd|apply qb []|refine exr ?_|refine qj ?_)
    all_goals first|(simp;done)|(simp at *;omega)|omega
theorem compactPlain_a (text:qa) (st:List AObj):ql E 4 [Sv text] st fun r st'=>r=Bv true∧st'=st:=compactPlain_c text st
end Go.Proofs.YtneejjefekdgjaaGreatDoor
