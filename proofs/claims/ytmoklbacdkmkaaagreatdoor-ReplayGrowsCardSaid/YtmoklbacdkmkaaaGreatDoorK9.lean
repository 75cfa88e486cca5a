/- Contracts and plain facts that the closing text leans on (part 9). No condition of their own beyond those that each states. -/
import Derived.Test.YtmoklbacdkmkaaaGreatDoorK8
import Derived.Laws.StructEq
set_option maxRecDepth 100000
set_option linter.unusedVariables false
set_option linter.unusedSimpArgs false
namespace Go.Pl
open Go
theorem decDigits_take:∀ (n u j:Nat),u≤n→1≤u→1≤j→j≤(Lib.decDigits u).length→∃ m,1≤m∧m≤u∧(Lib.decDigits u).take j=Lib.decDigits m
 |n,u,j,hn,hu,hj,hl=>by
  by_cases h:u<10
  ·refine⟨u,hu,Nat.le_refl _,?_⟩
   rw [Lib.decDigits_one h] at hl ⊢
   simp only [List.length_singleton] at hl
   have:j=1:=by omega
   subst this
   rfl
  ·cases n with
   |zero=>omega
   |succ n=>
    rw [qcf h] at hl ⊢
    have h1:(Lib.decDigits (u % 10)).length=1:=by rw [Lib.decDigits_one (by omega)];rfl
    rw [List.length_append,h1] at hl
    by_cases hj2:j≤(Lib.decDigits (u / 10)).length
    ·obtain⟨m,m1,m2,m3⟩:=decDigits_take n (u / 10) j (by omega) (by omega) hj hj2
     exact⟨m,m1,by omega,by rw [List.take_append_of_le_length hj2,m3]⟩
    ·refine⟨u,hu,Nat.le_refl _,?_⟩
     rw [List.take_of_length_le (by rw [List.length_append,h1];omega),← qcf h]
end Go.Pl
namespace Go.Proofs.YtmoklbacdkmkaaaGreatDoor
open Go Go.Pl
theorem hexAll_pre {a b:Bytes} (h:a <+: b) (hb:xy b):xy a:=fun c hc=>hb c (h.subset hc)
theorem opening_part {n:Nat} {fig l:Bytes} (h2:2≤n) (hn:n≤50000) (hf:fig.length=8) (hx:xy fig) (h:l <+: zy n fig):qee l=true:=by
 unfold zy at h
 rcases qr8 h with h | ⟨t,rfl,ht⟩
 ·unfold qee
  by_cases hb:zw <+: l
  ·have e:l=zw:=(h.eq_of_length_le hb.length_le)
   rw [if_pos hb,e]
   decide
  ·rw [if_neg hb]
   exact decide_eq_true h
 ·unfold qee
  rw [if_pos (List.prefix_append _ _)]
  have ed:(zw++t).drop 7=t:=by rw [show (7:Nat)=zw.length by rfl,List.drop_left]
  rw [ed]
  have h32:32∉Lib.itoa (n:Int):=qg2 n (by decide)
  rcases qr8 ht with ht | ⟨r,rfl,hr⟩
  ·have h3:32∉t:=qq6 ht h32
   rw [qeg h3]
   have hp:past 32 t=[]:=by unfold past;rw [qeg h3];simp
   rw [hp]
   refine decide_eq_true ⟨fun h'=>h3 h'.1,fun h'=>?_,by simp,by intro c hc;simp at hc⟩
   obtain⟨hne,h0⟩:=h'
   rw [qj7] at ht
   have hpos:1≤t.length:=List.length_pos_iff.2 hne
   obtain⟨m,m1,m2,m3⟩:=decDigits_take n n t.length (Nat.le_refl _) (by omega) hpos ht.length_le
   rw [← List.prefix_iff_eq_take.1 ht,← qj7] at m3
   rw [m3,ql9 m1 (by omega)] at h0
   omega
  ·cases r with
   |nil=>
    rw [List.append_nil,qeg h32]
    have hp:past 32 (Lib.itoa (n:Int))=[]:=by unfold past;rw [qeg h32];simp
    rw [hp,ql9 (by omega) hn]
    exact decide_eq_true ⟨fun h'=>h32 h'.1,fun h'=>by omega,by simp,by intro c hc;simp at hc⟩
   |cons c r=>
    obtain⟨rfl,hr2⟩:=List.cons_prefix_cons.1 hr
    rw [w9 r h32,yr r h32,ql9 (by omega) hn]
    exact decide_eq_true ⟨fun h'=>by omega,fun h'=>by omega,by have:=hr2.length_le;omega,hexAll_pre hr2 hx⟩
theorem partlyF_pre {n:Nat} {r body:Bytes} (hg:xh body) (hl:body.length=n) (hr:r <+: body) (hlt:r.length<n):qdf r ((n:Int) - r.length)=2:=by
 obtain⟨g1,g2,g3,g4⟩:=(qsh body).1 hg
 obtain⟨m,rfl⟩:=hr
 unfold qdf
 rw [qiq]
 rw [quu,Bool.and_eq_true] at g4
 refine if_pos ⟨g4.1,?_⟩
 rintro⟨h1,h2⟩
 have hm:m.length=1:=by simp at hl;omega
 obtain⟨c,rfl⟩:=List.length_eq_one_iff.1 hm
 rw [List.getLast?_append] at g3
 simp at g3
 subst g3
 have hf:qir true r=true:=by
  unfold qir
  rcases h1 with rfl|h1
  ·rfl
  ·rw [h1];rfl
 rw [hf] at g4
 simp [sp] at g4
theorem part_of {n:Nat} {fig body l:Bytes} (R:qzp n fig body) (h:l <+: recL n fig body) (hl:l.length<(recL n fig body).length):q9 l=(2,[],0):=by
 obtain⟨h2,hn,hlen,hg,hf,hx⟩:=R
 unfold recL at h hl
 rcases qr8 h with h | ⟨r,rfl,hr⟩
 ·have h10:10∉l:=qq6 h (qax n hx)
  unfold q9
  rw [if_neg h10,if_pos (opening_part h2 hn hf hx h)]
 ·cases r with
  |nil=>
   rw [List.append_nil]
   unfold q9
   rw [if_neg (qax n hx),if_pos (opening_part h2 hn hf hx (List.prefix_refl _))]
  |cons c r=>
   obtain⟨rfl,hr2⟩:=List.cons_prefix_cons.1 hr
   rw [qql r h2 hn hf hx]
   rcases qr8 hr2 with hr | ⟨q,rfl,hq⟩
   ·by_cases hlt:r.length<n
    ·rw [if_pos hlt,partlyF_pre hg hlen hr hlt]
    ·have e:r=body:=hr.eq_of_length_le (by omega)
     subst e
     rw [if_neg hlt,← hlen,List.take_length,if_pos hg,List.drop_length]
     unfold qad
     rw [if_pos ⟨by rw [qcq];simp,by simp⟩]
   ·rw [if_neg (by simp;omega),← hlen,List.take_left,List.drop_left,if_pos hg]
    unfold qad
    rw [if_pos ⟨by simp at hl;rw [hlen];omega,by rw [hlen];exact hq⟩]
theorem rec_part {b m:Bytes} (h:xh b) (hm:m <+: recF b) (hl:m.length<(recF b).length):q9 m=(2,[],0):=by
 rw [qeu] at hm hl
 exact part_of (qpj h) hm hl
end Go.Proofs.YtmoklbacdkmkaaaGreatDoor
namespace Go.Proofs.YtmoklbacdkmkaaaGreatDoor
open Go Go.Av Go.RowKit Go.Proofs Go.Pl
theorem flds_get {xs:List FldV} {k:Nat} (hk:k<xs.length):(xs.map fldA)[k]? = some (fldA (xs.getD k ([],[]))):=by
 simp [List.getD,hk]
theorem fieldsF : (Tryz.prog.fieldsOf 156).toList = [⟨ "Key", 9, 0, false, "", "", 0⟩, ⟨ "Value", 9, 1, false, "", "", 16⟩] := by kernel_rfl
theorem eqF_run (a b c d:ByteArray) (w:World):(Op.equalIn 10000 156 (.agg #[.string a,.string b]) (.agg #[.string c,.string d])).run Tryz.prog w = .ok (a.toList == c.toList && b.toList == d.toList) w:=by
 rw [run_equalIn_agg w 9999 156 _ _ (by kernel_rfl) (by kernel_rfl),fieldsF]
 have p1:∀ (x y:ByteArray) w,(part 9 #[.string x,.string y] 0).run Tryz.prog w = .ok (.string x) w:=fun x y w=>by kernel_rfl
 have p2:∀ (x y:ByteArray) w,(part 9 #[.string x,.string y] 1).run Tryz.prog w = .ok (.string y) w:=fun x y w=>by kernel_rfl
 have hs:∀ (x y:ByteArray) w,(Op.equalIn 9999 9 (.string x) (.string y)).run Tryz.prog w = .ok (x.toList == y.toList) w:=fun x y w=>run_equalIn_string w 9998 9 x y (by kernel_rfl)
 simp only [Op.eqFields,Sem.run_bind,Sem.run_ite,p1,p2,hs,Result.andThen_ok,Sem.run_pure]
 cases hac:(a.toList == c.toList) <;> cases hbd:(b.toList == d.toList) <;> simp
theorem rel_fld {G:Gh} {f:Fld} {v:Value} (h:Rel G (fldA f) v):v = .agg #[.string ⟨f.1.toArray⟩,.string ⟨f.2.toArray⟩]:=by
 cases h with
 |ag _ vs hl h=>
  match vs,hl with
  | ⟨[x,y]⟩,_=>
   have h1:=h 0 _ x rfl rfl
   have h2:=h 1 _ y rfl rfl
   cases h1
   cases h2
   rfl
theorem neF_val (f g:Fld) (w:World):(binOp .neq 156 (.agg #[.string ⟨f.1.toArray⟩,.string ⟨f.2.toArray⟩]) (.agg #[.string ⟨g.1.toArray⟩,.string ⟨g.2.toArray⟩])).run Tryz.prog w = .ok (.bool (decide (f≠g))) w:=by
 rw [run_neq_struct,eqF_run]
 simp only [Result.andThen_ok,ByteArray.toList_eq]
 obtain⟨a,b⟩:=f
 obtain⟨c,d⟩:=g
 congr 2
 by_cases h1:a=c <;> by_cases h2:b=d <;> simp [h1,h2]
section
variable {N : Nat} {ops : Array Oper} {K : AS → Prop} {s : AS} {rest : List Oper} {d : Option Tmp} {T : TypeId} {p : String} {af : Array Edge}
theorem aq_neF {x y:Operand} {t':TypeId} {f g:Fld} {b:Bool} (hx:qf N s x=fldA f) (hy:qf N s y=fldA g) (hb:decide (f≠g)=b)
  (h:AQ E N ops rest K (s.put d (Bv b))):AQ E N ops (⟨d,.binOp .neq 156 x y t',T,p,af,none⟩::rest) K s:=by
 subst hb
 refine qd6 rfl nofun fun B0 w0 G a w _ hI=>⟨.bool (decide (f≠g)),_,fun w' _=>?_,.v _,h⟩
 have h1:=rel_fld (hI.eval_of hx)
 have h2:=rel_fld (hI.eval_of hy)
 generalize a.eval = ρ at h1 h2
 have hg:(eqGuard .neq 156 x y (.agg #[.string ⟨f.1.toArray⟩,.string ⟨f.2.toArray⟩]) (.agg #[.string ⟨g.1.toArray⟩,.string ⟨g.2.toArray⟩])).run Tryz.prog w' = .ok () w':=run_eqGuard_agg w' _ _ _ _ _ _ (by kernel_rfl)
 simp [execOp,h1,h2,hg,neF_val]
end
theorem fieldsN_c (a b:List Fld) (st:List AObj) (ha:a.length<9223372036854775808):qn E 78 [kv a,kv b] st fun r st'=>r=Bv (decide (a=b))∧st'=st:=by
 refine q7 (q6 _) (qo Tryz.func78 rfl (Nat.le_of_ble_eq_true rfl) ?_)
 have hma:(a.map fldA).length=a.length:=by simp
 have hmb:(b.map fldA).length=b.length:=by simp
 by_cases hl:a.length=b.length
 ·skip
  repeat' (first|apply qk|apply qu|apply qc|apply qd|apply qj|apply qe|(apply qq;(iterate 3 exact rfl))|(apply qa;exact rfl;apply ko;exact cAo)|(apply zl;(iterate 4 exact rfl))|apply qs)
  refine xt (fun (k:Nat) s=>k≤a.length∧a.take k=b.take k∧StE [(0,kv a),(1,kv b),(12,Iv a.length),(13,Iv k)] st [] s) (fun k=>a.length - k) 0 ⟨by omega,by simp,qfl ⟨rfl,rfl,congrArg (fun n:Nat=>Iv (n:Int)) hma,rfl,trivial⟩ rfl⟩ ?_
  rintro k _ ⟨hk,ht,t,ext,rfl⟩
  by_cases hc:k<a.length
  ·by_cases he:a.getD k ([],[])=b.getD k ([],[])
   ·have hn:decide (a.getD k ([],[])≠b.getD k ([],[]))=false:=decide_eq_false fun h=>h he
    repeat' (first|apply qk|apply qu|apply qc|apply qd|apply qj|apply qe|(apply qq;(iterate 3 exact rfl))|(apply qa;exact rfl;apply kl;exact cAo)|(apply qa;exact rfl;apply cd_f;exact cRa)|(apply zv;exact rfl;exact rfl;exact q5 (by omega) (by omega))|(apply qc8;exact rfl;kernel_rfl)|apply qdx|(apply qa5;(iterate 3 exact rfl))|apply qcj|apply qs|(apply qvp (n:=k);(iterate 5 exact rfl);exact flds_get (xs:=a) (by omega))|(apply qvp (n:=k);(iterate 5 exact rfl);exact flds_get (xs:=b) (by omega))|(apply aq_neF;exact rfl;exact rfl;exact hn))
    exact⟨k+1,⟨by omega,ql5 hl hc ht he,qdy ⟨rfl,rfl,rfl,rfl,trivial⟩ rfl⟩,by omega⟩
   ·have hn:decide (a.getD k ([],[])≠b.getD k ([],[]))=true:=decide_eq_true he
    have hab:¬ a=b:=fun e=>he (by rw [e])
    repeat' (first|apply qk|apply qu|apply qc|apply qd|apply qj|apply qe|(apply qq;(iterate 3 exact rfl))|(apply qa;exact rfl;apply kl;exact cAo)|(apply qa;exact rfl;apply cd_t;exact cRa)|(apply qc8;exact rfl;kernel_rfl)|apply qdx|(apply qa5;(iterate 3 exact rfl))|apply qcj|apply qs|apply qr|(apply qvp (n:=k);(iterate 5 exact rfl);exact flds_get (xs:=a) (by omega))|(apply qvp (n:=k);(iterate 5 exact rfl);exact flds_get (xs:=b) (by omega))|(apply aq_neF;exact rfl;exact rfl;exact hn))
    exact ql rfl (zb rfl) ⟨congrArg Bv (decide_eq_false hab).symm,x8 _ _ _ _⟩
  ·have hab:a=b:=by
    have e:k=a.length:=by omega
    rw [e,List.take_length,List.take_of_length_le (by omega)] at ht
    exact ht
   repeat' (first|apply qk|apply qc|apply qd|apply qe|(apply qq;(iterate 3 exact rfl))|(apply qa;exact rfl;apply ko;exact cAo)|apply jp|apply qr)
   exact ql rfl (zb rfl) ⟨congrArg Bv (decide_eq_true hab).symm,x8 _ _ _ _⟩
 ·have hab:¬ a=b:=fun e=>hl (by rw [e])
  repeat' (first|apply qk|apply qc|apply qd|apply qj|apply qe|(apply qq;(iterate 3 exact rfl))|(apply qa;exact rfl;apply kl;exact cAo)|(apply zl;(iterate 4 exact rfl))|apply qr)
  exact ql rfl (zb rfl) ⟨congrArg Bv (decide_eq_false hab).symm,_,rfl⟩
end Go.Proofs.YtmoklbacdkmkaaaGreatDoor
namespace Go.Pl
open Go Go.Proofs Go.Proofs.YtmoklbacdkmkaaaGreatDoor
theorem xm.tailed {text:Bytes} {b:vr} (h:xm text b) {t:Bytes} (ht:(q9 t).1=2) (hl:(zi b++t).length≤120000):xm (zi b++t) { b with tail:=t }:=by
 have e:j5 b.gen++(b.base++(zo b.batches++t))=zi b++t:=by simp [zi]
 have:=h.other (bs:=b.batches) (t:=t) h.good ht (by rw [e];exact hl)
 rw [← h.ends,e] at this
 exact this
end Go.Pl
namespace Go.Proofs.YtmoklbacdkmkaaaGreatDoor
open Go Go.Av Go.RowKit Go.Proofs Go.Pl
theorem llen_c (l:zx) (st:List AObj):qn E 50 [qar l] st fun r st'=>r=Iv l.many∧st'=st:=by
 refine vc [.a (qar l)] (q6 _) Tryz.func50 rfl rfl (fun _=>rfl) rfl fun S0=>?_
 apply qh []
 repeat' (first|apply And.intro|(intro h;try exact cDd)|exact cSd|apply qb []|refine exr ?_|refine qm ?_)
theorem lnext_c (l:zx) (st:List AObj):qn E 18 [qar l] st fun r st'=>r=Iv l.next∧st'=st:=by
 refine vc [.a (qar l)] (q6 _) Tryz.func18 rfl rfl (fun _=>rfl) rfl fun S0=>?_
 apply qh []
 repeat' (first|apply And.intro|(intro h;try exact cDd)|exact cSd|apply qb []|refine exr ?_|refine qm ?_)
end Go.Proofs.YtmoklbacdkmkaaaGreatDoor
namespace Go.Pl
open Go Go.Proofs
def rawsF (its:List j6):Bytes:=its.flatMap fun x=>x.raw
theorem rawsF_app (a b:List j6):rawsF (a++b)=rawsF a++rawsF b:=by simp [rawsF]
theorem rawsF_one (x:j6):rawsF [x]=x.raw:=by simp [rawsF]
def apartFrom (prev:Bool):List j6→List j6
 | []=>[]
 |x::r=>(if prev=true∧x.kind≠1 then [⟨1,[10],[]⟩,x] else [x])++apartFrom (decide (x.kind≠1)) r
def apartF (its:List j6):List j6:=apartFrom false its
def itemsF (l:zx):List j6:=l.ents.map fun e=>e.x
def textL (l:zx):Bytes:=rawsF (apartF (itemsF l))
end Go.Pl
namespace Go.Proofs.YtmoklbacdkmkaaaGreatDoor
open Go Go.Av Go.RowKit Go.Proofs Go.Pl
theorem copied_c (x:j6) (st:List AObj) (hl:x.fields.length<1000000):qn E 158 [yy x] st fun r st'=>r=yy x∧st'=st:=by
 refine vc [.a (yy x)] (qgo (qm1 _)) Tryz.func158 rfl rfl (fun _=>rfl) rfl fun S0=>?_
 have h2:=fun st=>q00 x.fields st hl
 apply qh [1]
 repeat' (first|apply And.intro|(intro h;try exact cDd)|exact⟨Tryz.call80⟩|refine cpe h2 ?_|exact cSd|apply qb [1]|refine exr ?_|refine qm ?_)
structure ItsB (its:List j6):Prop where
 len:its.length≤1000000
 fld:∀ x∈its,x.fields.length<1000000
theorem apart_len (prev:Bool):∀ its:List j6,(apartFrom prev its).length≤2 * its.length
 | []=>by simp [apartFrom]
 |x::r=>by
  have ih:=apart_len (decide (x.kind≠1)) r
  unfold apartFrom
  split <;> simp only [List.length_append,List.length_cons,List.length_nil] <;> omega
theorem papart_c (its:List j6) (st:List AObj) (hB:ItsB its):qn E 93 [qce its] st fun r st'=>r=qce (apartF its)∧st'=st:=by
 refine vc [.a (qce its)] (qnm _) Tryz.func93 rfl rfl (fun _=>rfl) rfl fun S0=>?_
 have hln:=hB.len
 apply qh []
 repeat' (first|apply And.intro|(intro h;try exact cDd)|exact cSd|apply qb []|refine exr ?_|refine qm ?_)
 refine yt (X:=Nat×List j6) (fun (k,out)=>⟨[(0,.a (qce its)),(3,.tp 0),(6,.a (qce its)),(7,.i its.length),(8,.i k)],[(0,some (.tip 3 137 (out.map yy)))],1⟩)
  (fun (k,out)=>k≤its.length∧out.length≤2 * k∧∃ prev,(prev=true↔∃ y,0<k∧its[k - 1]? = some y∧y.kind≠1)∧out++apartFrom prev (its.drop k)=apartF its) (fun (k,out)=>its.length - k) (0,[]) ⟨by omega,by simp,false,by simp,rfl⟩ ?_ ?_
 ·skip
  repeat' (first|apply And.intro|(intro h;try exact cDd)|exact cSd|apply qb []|refine exr ?_|refine qm ?_)
  all_goals (simp;done)
 ·rintro⟨k,out⟩ ⟨hk,hol,prev,hpv,hrun⟩
  by_cases hkn:k<its.length
  ·have hx:its[k]? = some its[k]:=List.getElem?_eq_getElem hkn
   have hxm:(its.map yy)[k]? = some (yy its[k]):=by rw [List.getElem?_map,hx];rfl
   have hxf:=hB.fld its[k] (List.getElem_mem hkn)
   rw [List.drop_eq_getElem_cons hkn,apartFrom] at hrun
   generalize its[k]=x at hx hxm hrun hxf
   have hcp:=fun st=>copied_c x st hxf
   have hml:(out.map yy).length=out.length:=by simp
   have hnext:(decide (x.kind≠1)=true↔∃ y,0<k+1∧its[k+1 - 1]? = some y∧y.kind≠1):=by
    rw [decide_eq_true_iff,Nat.add_sub_cancel,hx]
    constructor
    ·intro h
     exact⟨x,by omega,rfl,h⟩
    ·rintro⟨y,_,h1,h2⟩
     simp only [Option.some.injEq] at h1
     rw [h1]
     exact h2
   by_cases hk0:k=0
   ·have hp:¬ (prev=true):=fun h=>by
     obtain⟨_,h,_⟩:=hpv.1 h
     omega
    rw [if_neg (fun h=>hp h.1)] at hrun
    apply qh []
    repeat' (first|apply And.intro|(intro h;try exact cDd)|(refine Exists.intro (k) ⟨by omega,_,hxm,?_⟩)|exact⟨Tryz.call158⟩|refine cpe hcp ?_|(refine Exists.intro (k+1,out++[x]) ⟨⟨by omega,by simp;omega,_,hnext,by rw [← hrun];simp⟩,by simp only;omega,?_⟩)|exact cSd|apply qb []|refine exr ?_|refine qm ?_)
    all_goals first|(simp [SV.evs,SV.ev];done)|(simp [SV.evs];omega)
   ·obtain⟨y,hy⟩:∃ y,its[k - 1]? = some y:=⟨_,List.getElem?_eq_getElem (by omega:k - 1<its.length)⟩
    have hym:(its.map yy)[k - 1]? = some (yy y):=by rw [List.getElem?_map,hy];rfl
    have hpy:(prev=true↔y.kind≠1):=by
     rw [hpv]
     constructor
     ·rintro⟨z,_,h1,h2⟩
      rw [hy] at h1
      simp only [Option.some.injEq] at h1
      rw [h1]
      exact h2
     ·exact fun h=>⟨y,by omega,hy,h⟩
    by_cases hb:x.kind≠1∧y.kind≠1
    ·rw [if_pos ⟨hpy.2 hb.2,hb.1⟩] at hrun
     obtain⟨hb1,hb2⟩:=hb
     apply qh []
     repeat' (first|apply And.intro|(intro h;try exact cDd)|(refine Exists.intro (k) ⟨by omega,_,hxm,?_⟩)|(refine Exists.intro (k - 1) ⟨by omega,_,hym,?_⟩)|exact⟨Tryz.call158⟩|refine cpe hcp ?_|(refine Exists.intro (k+1,out++[⟨1,[10],[]⟩,x]) ⟨⟨by omega,by simp;omega,_,hnext,by rw [← hrun];simp⟩,by simp only;omega,?_⟩)|exact cSd|apply qb []|refine exr ?_|refine qm ?_)
     all_goals first|(simp [SV.evs,SV.ev];done)|(simp [SV.evs];omega)
    ·rw [if_neg (fun h=>hb ⟨h.2,hpy.1 h.1⟩)] at hrun
     apply qh []
     repeat' (first|apply And.intro|(intro h;try exact cDd)|(refine Exists.intro (k) ⟨by omega,_,hxm,?_⟩)|(refine Exists.intro (k - 1) ⟨by omega,_,hym,?_⟩)|exact⟨Tryz.call158⟩|refine cpe hcp ?_|(refine Exists.intro (k+1,out++[x]) ⟨⟨by omega,by simp;omega,_,hnext,by rw [← hrun];simp⟩,by simp only;omega,?_⟩)|exact absurd ⟨by assumption,by assumption⟩ hb|exact cSd|apply qb []|refine exr ?_|refine qm ?_)
     all_goals first|(simp [SV.evs,SV.ev];done)|(simp [SV.evs];omega)
  ·have hkn:k=its.length:=by omega
   subst hkn
   rw [List.drop_length,apartFrom,List.append_nil] at hrun
   rw [← hrun]
   apply qh []
   repeat' (first|apply And.intro|(intro h;try exact cDd)|exact cSd|apply qb []|refine exr ?_|refine qm ?_)
theorem sjoin_c (its:List j6) (st:List AObj) (hl:its.length≤4000000) (hr:(rawsF its).length≤1000000000000):qn E 92 [qce its] st fun r st'=>r=Sv (rawsF its)∧st'=st:=by
 refine q7 (q6 _) (qo Tryz.func92 rfl (Nat.le_of_ble_eq_true rfl) ?_)
 have hml:(its.map yy).length=its.length:=by simp
 repeat' (first|(apply qji;exact rfl)|apply qk|apply qu|apply qc|apply qd|apply qj|apply qe|(apply zl;(iterate 4 exact rfl)))
 refine qbo its (fun pre s=>∃ q,(q = .v (.pointer none)∨q = .bx (st.length+0) 0 0)∧StE [(3,.bx (st.length+0) 0 0),(6,qce its),(7,Iv its.length),(8,Iv pre.length)] st [bldO 0 q (rawsF pre) (st.length+1),.tip (rawsF pre).length 1 5] s) ⟨_,.inl rfl,qfl ⟨rfl,rfl,congrArg (fun n:Nat=>Iv (n:Int)) hml,rfl,trivial⟩ rfl⟩ ?_ ?_
 ·rintro _ ⟨q,hq,t,ext,rfl⟩
  repeat' (first|apply qk|apply qc|apply qd|apply qe|(apply qq;(iterate 3 exact rfl))|(apply qa;exact rfl;apply ko;exact cAo)|apply jp|apply qr|(refine qg Tryz.call139 (qjb st _ _ _ _ 0 1 0 _ _ rfl rfl rfl) ?_))
  exact ql rfl (zb rfl) ⟨rfl,x8 _ _ _ _⟩
 ·rintro pre x rest _ hre ⟨q,hq,t,ext,rfl⟩
  have hlen:its.length=pre.length+(rest.length+1):=by rw [hre];simp
  have hget:(its.map yy)[pre.length]? = some (yy x):=by rw [hre];simp
  have hrl:(rawsF pre).length+x.raw.length≤1000000000000:=by
   have e:x::rest=[x]++rest:=rfl
   rw [hre,rawsF_app,e,rawsF_app,rawsF_one] at hr
   simp only [List.length_append] at hr
   omega
  repeat' (first|apply qk|apply qu|apply qc|apply qd|(apply qq;(iterate 3 exact rfl))|(apply qa;exact rfl;apply kl;exact cAo)|(apply zm;exact rfl;exact rfl)|(apply qz;(iterate 3 exact rfl))|(apply zn;(iterate 3 exact rfl))|(apply zh;(iterate 5 exact rfl))|(apply zf;(iterate 11 exact rfl))|apply qs|(apply z6 (n:=pre.length);(iterate 5 exact rfl);exact hget))
  refine qg Tryz.call136 (qkh st _ _ _ _ 0 1 0 _ _ _ rfl rfl ?_ ?_ rfl) ?_;(exact hq);(omega)
  repeat' (first|apply qc|apply qd|apply qj|(apply zv;exact rfl;exact rfl;exact q5 (by omega) (by omega)))
  refine⟨_,.inr rfl,qdy ⟨rfl,rfl,rfl,?_,trivial⟩ ?_⟩
  ·rw [qfo pre x];rfl
  ·rw [rawsF_app,rawsF_one];rfl
theorem render_c (its:List j6) (st:List AObj) (hB:ItsB its) (hr:(rawsF (apartF its)).length≤1000000000000):qn E 52 [qce its] st fun r st'=>r=Sv (rawsF (apartF its))∧st'=st:=by
 refine vc [.a (qce its)] (q6 _) Tryz.func52 rfl rfl (fun _=>rfl) rfl fun S0=>?_
 have h1:=fun st=>papart_c its st hB
 have hal:=apart_len false its
 have hln:=hB.len
 have h2:=fun st=>sjoin_c (apartF its) st (by unfold apartF;omega) hr
 apply qh []
 repeat' (first|apply And.intro|(intro h;try exact cDd)|exact⟨Tryz.call93⟩|refine cpe h1 ?_|exact⟨Tryz.call92⟩|refine cpe h2 ?_|exact cSd|apply qb []|refine exr ?_|refine qm ?_)
theorem litems_c (l:zx) (st:List AObj) (hB:ItsB (itemsF l)):qn E 53 [qar l] st fun r st'=>r=qce (itemsF l)∧st'=st:=by
 refine vc [.a (qar l)] (qnm _) Tryz.func53 rfl rfl (fun _=>rfl) rfl fun S0=>?_
 have hln:=hB.len
 have hil:(itemsF l).length=l.ents.length:=by simp [itemsF]
 apply qh []
 repeat' (first|apply And.intro|(intro h;try exact cDd)|exact cSd|apply qb []|refine exr ?_|refine qm ?_)
 refine yt (X:=Nat) (fun k=>⟨[(3,.tp 0),(12,.a (.sl 4 (l.ents.map entA) none)),(13,.i l.ents.length),(14,.i k)],[(0,some (.tip 3 137 (((itemsF l).take k).map yy)))],1⟩)
  (fun k=>k≤l.ents.length) (fun k=>l.ents.length - k) 0 (by omega) ?_ ?_
 ·skip
  repeat' (first|apply And.intro|(intro h;try exact cDd)|exact cSd|apply qb []|refine exr ?_|refine qm ?_)
  all_goals (simp;done)
 ·rintro k hk
  by_cases hkn:k<l.ents.length
  ·have hx:l.ents[k]? = some l.ents[k]:=List.getElem?_eq_getElem hkn
   have hxm:(l.ents.map entA)[k]? = some (entA l.ents[k]):=by rw [List.getElem?_map,hx];rfl
   have hxi:(itemsF l)[k]? = some l.ents[k].x:=by unfold itemsF;rw [List.getElem?_map,hx];rfl
   have hxf:=hB.fld l.ents[k].x (List.mem_of_getElem? hxi)
   have htk:(itemsF l).take (k+1)=(itemsF l).take k++[l.ents[k].x]:=by rw [List.take_add_one,hxi];rfl
   have htl:(((itemsF l).take k).map yy).length≤k:=by simp;omega
   generalize l.ents[k]=e at hx hxm hxi hxf htk
   have hcp:=fun st=>q00 e.x.fields st hxf
   apply qh []
   repeat' (first|apply And.intro|(intro h;try exact cDd)|(refine Exists.intro (k) ⟨by omega,_,hxm,?_⟩)|exact⟨Tryz.call80⟩|refine cpe hcp ?_|(refine Exists.intro (k+1) ⟨by omega,by omega,?_⟩)|exact cSd|apply qb []|refine exr ?_|refine qm ?_)
   all_goals first|(rw [htk];simp;done)|(simp [SV.evs];omega)
  ·have hkn:k=l.ents.length:=by omega
   subst hkn
   have e:(itemsF l).take l.ents.length=itemsF l:=List.take_of_length_le (by omega)
   rw [e]
   apply qh []
   repeat' (first|apply And.intro|(intro h;try exact cDd)|exact cSd|apply qb []|refine exr ?_|refine qm ?_)
theorem ltext_c (l:zx) (st:List AObj) (hB:ItsB (itemsF l)) (hr:(textL l).length≤1000000000000):qn E 16 [qar l] st fun r st'=>r=Sv (textL l)∧st'=st:=by
 refine vc [.a (qar l)] (q6 _) Tryz.func16 rfl rfl (fun _=>rfl) rfl fun S0=>?_
 have h1:=fun st=>litems_c l st hB
 have h2:=fun st=>render_c (itemsF l) st hB hr
 apply qh []
 repeat' (first|apply And.intro|(intro h;try exact cDd)|exact⟨Tryz.call53⟩|refine cpe h1 ?_|exact⟨Tryz.call52⟩|refine cpe h2 ?_|exact cSd|apply qb []|refine exr ?_|refine qm ?_)
end Go.Proofs.YtmoklbacdkmkaaaGreatDoor
namespace Go.Pl
open Go Go.Proofs
def cntF (es:List EntV):Nat:=es.countP fun e=>decide (0<e.id)
theorem cntF_snoc (es:List EntV) (e:EntV):cntF (es++[e])=cntF es+if 0<e.id then 1 else 0:=by
 unfold cntF
 rw [List.countP_append]
 by_cases h:0<e.id <;> simp [h]
end Go.Pl
namespace Go.Pl
open Go Go.Proofs Go.Av
def LM (l:zx):Prop:=l.many=cntF l.ents
theorem cntF_app (a b:List EntV):cntF (a++b)=cntF a+cntF b:=by simp [cntF]
theorem cntF_cons (e:EntV) (b:List EntV):cntF (e::b)=(if 0<e.id then 1 else 0)+cntF b:=by
 by_cases h:0<e.id <;> simp [cntF,h] <;> omega
theorem cut_at {l:List EntV} {i:Nat} {e:EntV} (h:l[i]? = some e):l=l.take i++e::l.drop (i+1):=by
 obtain⟨hi,rfl⟩:=List.getElem?_eq_some_iff.1 h
 rw [← List.drop_eq_getElem_cons hi,List.take_append_drop]
theorem replF_lm {l:zx} (h:LM l) (id:Int) (fs:List Fld):LM (qf2 l id fs).2:=by
 unfold qf2
 split
 ·exact h
 ·split
  ·unfold q0w
   split
   ·rename_i e he
    unfold LM at h ⊢
    simp only
    rw [h]
    have h1:=cut_at he
    have hi:=lt_of_getElem? he
    rw [List.set_eq_take_append_cons_drop,if_pos hi]
    conv=>lhs;rw [h1]
    rw [cntF_app,cntF_app,cntF_cons,cntF_cons]
   ·exact h
  ·exact h
theorem delF_lm {l:zx} (h:LM l) (id:Int):LM (delF l id).2:=by
 unfold delF
 split
 ·exact h
 ·rename_i hn
  rcases qv6 l id with g | ⟨i,e,g,he,hid,hid1⟩
  ·exact absurd (by rw [g];decide) hn
  ·rw [g,Int.toNat_natCast]
   unfold LM delL at *
   simp only
   rw [h]
   have h1:=cut_at he
   conv=>lhs;rw [h1]
   rw [cntF_app,cntF_app,cntF_cons,if_pos (by omega)]
   omega
theorem insF_lm {l:zx} (h:LM l) (hn:1≤l.next) (id:Int) (fs:List Fld):LM (insF l id fs).2.2:=by
 unfold insF
 split
 ·exact h
 ·split
  ·split
   ·exact h
   ·unfold LM insL at *
    simp only
    rw [h,cntF_app,cntF_cons,if_pos (by simp only;omega)]
    conv=>lhs;rw [← List.take_append_drop (atF l id+1).toNat l.ents]
    rw [cntF_app]
    omega
  ·exact h
theorem ofL_lm:∀ (its:List j6) (l:zx),LM l→1≤l.next→LM (its.foldl qjy l)∧1≤(its.foldl qjy l).next
 | [],l,h,hn=>⟨h,hn⟩
 |x::r,l,h,hn=>by
  rw [List.foldl_cons]
  unfold qjy
  split
  ·refine ofL_lm r _ ?_ (by simp only;omega)
   unfold LM at *
   simp only
   rw [cntF_snoc,if_pos (by simp only;omega),h]
   omega
  ·refine ofL_lm r _ ?_ hn
   unfold LM at *
   simp only
   rw [cntF_snoc,if_neg (by simp),h]
   omega
theorem ofF_lm (its:List j6):LM (ofF its):=(ofL_lm its ⟨[],1,0⟩ (by simp [LM,cntF]) (by decide)).1
end Go.Pl
namespace Go.Proofs.YtmoklbacdkmkaaaGreatDoor
open Go Go.Av Go.RowKit Go.Proofs Go.Pl
theorem oneF_lm {l:zx} (h:LM l) (hn:1≤l.next) (x:qp):LM (oneF l x).2.2:=by
 unfold oneF
 split
 ·exact replF_lm h _ _
 ·split
  ·exact delF_lm h _
  ·exact insF_lm h hn _ _
theorem doFrom_lm:∀ (b:List qp) (k n:Nat) (l:zx) (ids:List Int),LM l→LB n l→n+b.length<900000→LM (qgb k b l ids).2.1
 | [],k,n,l,ids,h,_,_=>h
 |x::r,k,n,l,ids,h,hB,hs=>by
  simp only [List.length_cons] at hs
  unfold qgb
  split
  ·exact doFrom_lm r (k+1) (n+1) _ _ (oneF_lm h hB.nx0 x) (qy5 hB (by omega) x) (by omega)
  ·exact h
theorem doF_lm {n:Nat} {l:zx} (h:LM l) (hB:LB n l) (hs:n+40<900000) (b:List qp):LM (doF l b).2.1:=by
 unfold doF
 split
 ·rename_i he
  obtain⟨h1,h2,_⟩:=qfu he
  exact doFrom_lm b 0 n l [] h hB (by omega)
 ·exact h
end Go.Proofs.YtmoklbacdkmkaaaGreatDoor
namespace Go.Pl
open Go Go.Proofs Go.Proofs.YtmoklbacdkmkaaaGreatDoor
theorem rawsF_cons (x:j6) (r:List j6):rawsF (x::r)=x.raw++rawsF r:=by simp [rawsF]
theorem raws_mem {its:List j6} {x:j6} (h:x∈its):x.raw.length≤(rawsF its).length:=by
 induction its with
 |nil=>simp at h
 |cons y r ih=>
  rw [rawsF_cons,List.length_append]
  rcases List.mem_cons.1 h with rfl|h
  ·omega
  ·have:=ih h
   omega
structure PR (m:Nat) (p:PSt):Prop where
 tot:(rawsF p.items).length+(zj p.block).length≤m
 fl:∀ x∈p.items,x.fields.length<900000
theorem flushP_pr {m:Nat} {p:PSt} (h:PR m p):PR m (jl p).2:=by
 unfold jl
 split
 ·exact h
 ·split
  ·exact h
  ·split
   ·exact h
   ·exact⟨h.tot,h.fl⟩
theorem closeP_pr {m:Nat} {p:PSt} (h:PR m p) (hf:p.fields.length<900000):PR m (xz p):=by
 have ht:=h.tot
 unfold xz
 split
 ·exact⟨by simp only [zj,List.flatMap_nil,List.length_nil];omega,h.fl⟩
 ·refine⟨?_,fun x hx=>?_⟩
  ·simp only [rawsF_app,rawsF_one,List.length_append]
   simp only [zj,List.flatMap_nil,List.length_nil] at ht ⊢
   omega
  ·simp only [List.mem_append,List.mem_singleton] at hx
   rcases hx with hx|rfl
   ·exact h.fl x hx
   ·exact hf
theorem endP_pr {m n:Nat} {p:PSt} (h:PR m p) (hB:PB n p) (hs:n+1<900000):PR m (endP p).2:=by
 unfold endP
 split
 ·exact h
 ·have:=(qi0 hB hs).fields
  exact closeP_pr (flushP_pr h) (by omega)
theorem aheadP_pr {m n:Nat} {p:PSt} {no:Int} {text:Bytes} {ended:Bool} {kind:Int} (h:PR m p) (hB:PB n p) (hs:n+1<900000):PR m (je p no text ended kind).2:=by
 unfold je
 split
 ·split
  ·exact h
  ·split
   ·exact⟨h.tot,h.fl⟩
   ·exact flushP_pr ⟨h.tot,h.fl⟩
 ·split
  ·exact endP_pr h hB hs
  ·exact flushP_pr h
theorem takeP_pr {m n:Nat} {p:PSt} {no:Int} {text:Bytes} {ended:Bool} (h:PR m p) (hB:PB n p) (hs:n+1<900000):PR (m+text.length+1) (wb p no text ended).2:=by
 have more:∀ {q:PSt},PR m q→PR (m+text.length+1) q:=fun h=>⟨by have:=h.tot;omega,h.fl⟩
 have h2:PR m (je p no text ended (qy text)).2:=aheadP_pr h hB hs
 have ht:=h2.tot
 unfold wb
 split
 ·exact more h
 ·split
  ·exact more h
  ·split
   ·refine⟨?_,fun x hx=>?_⟩
    ·simp only [rawsF_app,rawsF_one,List.length_append,List.length_cons,List.length_nil]
     omega
    ·simp only [List.mem_append,List.mem_singleton] at hx
     rcases hx with hx|rfl
     ·exact h2.fl x hx
     ·simp
   ·split
    ·refine⟨?_,h2.fl⟩
     simp only [j7,qc5,List.length_append]
     simp only [zj,List.flatMap_cons,List.flatMap_nil,List.length_append,List.length_cons,List.length_nil] at ht ⊢
     omega
    ·refine⟨?_,h2.fl⟩
     simp only [qc5,List.length_append]
     simp only [zj,List.flatMap_cons,List.flatMap_nil,List.length_append,List.length_cons,List.length_nil] at ht ⊢
     omega
theorem runL_pr:∀ (n:Nat) (rest:Bytes) (k m:Nat) (p:PSt),rest.length≤n→PB (4 * k) p→PR m p→k+rest.length≤60000→PR (m+2 * rest.length) (runL k (zr rest) p).2:=by
 intro n
 induction n with
 |zero=>
  intro rest k m p hr hB hR hk
  obtain rfl:rest=[]:=List.eq_nil_of_length_eq_zero (by omega)
  rw [wg,runL]
  exact endP_pr hR hB (by omega)
 |succ n ih=>
  intro rest k m p hr hB hR hk
  by_cases hne:rest=[]
  ·subst hne
   rw [wg,runL]
   exact endP_pr hR hB (by omega)
  ·have hu:=kf 10 rest
   have hpl:=ju 10 rest
   have hr0:0<rest.length:=List.length_pos_iff.2 hne
   rw [we hne]
   simp only [runL]
   have hB2:=qws (no:=k) (text:=upto 10 rest) (ended:=decide (10∈rest)) hB (by omega) (by omega)
   have hR2:=takeP_pr (no:=k) (text:=upto 10 rest) (ended:=decide (10∈rest)) hR hB (by omega)
   split
   ·exact⟨by have:=hR.tot;simp only;omega,hR.fl⟩
   ·have:=ih (past 10 rest) (k+1) _ _ (by omega) hB2 hR2 (by omega)
    exact⟨by have:=this.tot;omega,this.fl⟩
theorem itsE_pr (text:Bytes):(rawsF (itsE text)).length≤120000∧∀ x∈itsE text,x.fields.length<900000:=by
 unfold itsE
 split
 ·simp [rawsF]
 ·have h:=runL_pr text.length text 0 0 p0 (Nat.le_refl _) q7i ⟨by simp [p0,rawsF,zj],by simp [p0]⟩ (by omega)
  unfold j8
  split
  ·simp [rawsF]
  ·have:=h.tot
   exact⟨by simp only;omega,h.fl⟩
def LI (l:zx):Prop:=∀ e∈l.ents,e.x.raw.length≤1000000∧e.x.fields.length<900000
theorem ofL_li:∀ (its:List j6) (l:zx),LI l→(∀ x∈its,x.raw.length≤1000000∧x.fields.length<900000)→LI (its.foldl qjy l)
 | [],l,h,_=>h
 |x::r,l,h,hx=>by
  rw [List.foldl_cons]
  refine ofL_li r _ ?_ fun y hy=>hx y (by simp [hy])
  have h1:=hx x (by simp)
  unfold qjy
  split
  ·intro e he
   simp only [List.mem_append,List.mem_singleton] at he
   rcases he with he|rfl
   ·exact h e he
   ·exact h1
  ·intro e he
   simp only [List.mem_append,List.mem_singleton] at he
   rcases he with he|rfl
   ·exact h e he
   ·exact h1
theorem ofF_li (text:Bytes):LI (ofF (itsE text)):=by
 obtain⟨h1,h2⟩:=itsE_pr text
 refine ofL_li _ _ (by simp [LI]) fun x hx=>⟨?_,h2 x hx⟩
 have:=raws_mem hx
 omega
theorem pitemF_li (fs:List Fld):(qhy fs).raw.length≤1000000∧(qhy fs).fields.length<900000:=by
 unfold qhy
 split
 ·rename_i h
  obtain⟨_,g1,g2⟩:=qox h
  have:=qip fs g2
  exact⟨by simp only;omega,by simp only;omega⟩
 ·exact⟨by simp,by simp⟩
theorem replF_li {l:zx} (h:LI l) (id:Int) (fs:List Fld):LI (qf2 l id fs).2:=by
 unfold qf2
 split
 ·exact h
 ·split
  ·unfold q0w
   split
   ·intro y hy
    rcases List.mem_or_eq_of_mem_set hy with hy|rfl
    ·exact h y hy
    ·exact pitemF_li fs
   ·exact h
  ·exact h
theorem delF_li {l:zx} (h:LI l) (id:Int):LI (delF l id).2:=by
 unfold delF
 split
 ·exact h
 ·intro y hy
  simp only [delL,List.mem_append] at hy
  rcases hy with hy|hy
  ·exact h y (List.mem_of_mem_take hy)
  ·exact h y (List.mem_of_mem_drop hy)
theorem insF_li {l:zx} (h:LI l) (id:Int) (fs:List Fld):LI (insF l id fs).2.2:=by
 unfold insF
 split
 ·exact h
 ·split
  ·split
   ·exact h
   ·intro y hy
    simp only [insL,List.mem_append,List.mem_cons] at hy
    rcases hy with hy|rfl|hy
    ·exact h y (List.mem_of_mem_take hy)
    ·exact pitemF_li fs
    ·exact h y (List.mem_of_mem_drop hy)
  ·exact h
theorem apart_raws:∀ (its:List j6) (b:Bool),(∀ x∈its,x.raw.length≤1000000)→(rawsF (apartFrom b its)).length≤1000001 * its.length
 | [],b,h=>by simp [apartFrom,rawsF]
 |x::r,b,h=>by
  have ih:=apart_raws r (decide (x.kind≠1)) fun y hy=>h y (by simp [hy])
  have hx:=h x (by simp)
  rw [apartFrom,rawsF_app,List.length_append]
  split
  ·rw [rawsF_cons,rawsF_one]
   simp only [List.length_append,List.length_cons,List.length_nil]
   omega
  ·rw [rawsF_one]
   simp only [List.length_cons]
   omega
theorem textL_le {n:Nat} {l:zx} (hB:LB n l) (h:LI l):(textL l).length≤1000000000000:=by
 have h1:=apart_raws (itemsF l) false fun x hx=>by
  obtain⟨e,he,rfl⟩:=List.mem_map.1 hx
  exact (h e he).1
 have h2:=hB.len
 have h3:=hB.small
 unfold textL apartF
 have:(itemsF l).length=l.ents.length:=by simp [itemsF]
 omega
end Go.Pl
namespace Go.Proofs.YtmoklbacdkmkaaaGreatDoor
open Go Go.Av Go.RowKit Go.Proofs Go.Pl
theorem oneF_li {l:zx} (h:LI l) (x:qp):LI (oneF l x).2.2:=by
 unfold oneF
 split
 ·exact replF_li h _ _
 ·split
  ·exact delF_li h _
  ·exact insF_li h _ _
theorem doFrom_li:∀ (b:List qp) (k:Nat) (l:zx) (ids:List Int),LI l→LI (qgb k b l ids).2.1
 | [],k,l,ids,h=>h
 |x::r,k,l,ids,h=>by
  unfold qgb
  split
  ·exact doFrom_li r (k+1) _ _ (oneF_li h x)
  ·exact h
theorem doF_li {l:zx} (h:LI l) (b:List qp):LI (doF l b).2.1:=by
 unfold doF
 split
 ·exact doFrom_li b 0 l [] h
 ·exact h
theorem itsB_of {n:Nat} {l:zx} (hB:LB n l) (h:LI l):ItsB (itemsF l):=by
 have h1:=hB.len
 have h2:=hB.small
 refine⟨by simp [itemsF];omega,fun x hx=>?_⟩
 obtain⟨e,he,rfl⟩:=List.mem_map.1 hx
 have:=(h e he).2
 omega
theorem playF_inv {base:Bytes}:∀ (bs:List (List qp)) (k:Nat) (r:RunV),k+bs.length≤14000→LB (300000+40 * k) r.l→LM r.l→LI r.l→LB 860000 (qbx bs r).2.l∧LM (qbx bs r).2.l∧LI (qbx bs r).2.l
 | [],k,r,hk,h1,h2,h3=>⟨qjw h1 (by simp at hk;omega) (by omega),h2,h3⟩
 |b::q,k,r,hk,h1,h2,h3=>by
  simp only [List.length_cons] at hk
  unfold qbx
  split
  ·exact playF_inv (base:=base) q (k+1) _ (by omega) (qjw (q15 h1 (by omega) b) (by omega) (by omega)) (doF_lm h2 h1 (by omega) b) (doF_li h3 b)
  ·exact⟨qjw h1 (by omega) (by omega),h2,h3⟩
theorem playF_ok (base:Bytes) (bs:List (List qp)) (h:bs.length≤14000):LB 860000 (y4 base bs).2.l∧LM (y4 base bs).2.l∧LI (y4 base bs).2.l:=by
 unfold y4
 split
 ·exact playF_inv (base:=base) bs 0 _ (by omega) (q3r base) (ofF_lm _) (ofF_li base)
 ·exact⟨⟨by omega,by simp [ofF],by simp [ofF],by simp [ofF],by simp [ofF],by simp [ofF]⟩,by simp [ofF,LM,cntF],by simp [ofF,LI]⟩
theorem alive14_c (st:List AObj):qn E 11 [] st fun r st'=>r=Bv true∧st'=st:=by
 have hap:=fun st=>qv4 qto qov st (by decide) (by simp [qov];exact⟨by simp [KeyB],by simp,by simp,by simp⟩) (by decide)
 have h1:(Go.Pl.appF qto qov).1 = .no:=by decide +kernel
 have h2:(qay (Go.Pl.appF qto qov).2).1 = .no:=by decide +kernel
 have h3:(qay (Go.Pl.appF qto qov).2).2.2.next=2:=by decide +kernel
 have h4:(qay (Go.Pl.appF qto qov).2).2.2.many=0:=by decide +kernel
 have h5:(Go.Pl.appF qto qov).2.length<1000000:=by decide +kernel
 rw [h1] at hap
 generalize (Go.Pl.appF qto qov).2=s at hap h2 h3 h4 h5
 have hrt:=fun st=>qyr s st h5
 unfold ql2 at hrt
 simp only [h2] at hrt
 have hn:=fun st=>lnext_c (qay s).2.2 st
 have hm:=fun st=>llen_c (qay s).2.2 st
 rw [h3] at hn
 rw [h4] at hm
 refine vc [] (q6 _) Tryz.func11 rfl rfl (fun _=>rfl) rfl fun S0=>?_
 apply qh []
 repeat' (first|apply And.intro|(intro h;try exact cDd)|exact⟨Tryz.call28⟩|refine cpe hap ?_|exact⟨Tryz.call12⟩|refine cpe hrt ?_|exact⟨Tryz.call50⟩|refine cpe hm ?_|exact⟨Tryz.call18⟩|refine cpe hn ?_|exact cSd|apply qb []|refine exr ?_|refine qm ?_)
end Go.Proofs.YtmoklbacdkmkaaaGreatDoor
namespace Go.Pl
open Go Go.Proofs
def nextE:List EntV→Option (EntV×List EntV)
 | []=>none
 |e::r=>if 0<e.id then some (e,r) else nextE r
def stzF (es:List EntV):List (Int×List Fld):=(es.filter fun e=>decide (0<e.id)).map fun e=>(e.id,e.x.fields)
theorem nextE_none:∀ {r:List EntV},nextE r=none→stzF r=[]
 | [],_=>rfl
 |e::r,h=>by
  unfold nextE at h
  split at h
  ·simp at h
  ·rename_i h0
   have:=nextE_none h
   simpa [stzF,h0] using this
theorem nextE_some:∀ {r:List EntV} {e:EntV} {q:List EntV},nextE r=some (e,q)→0<e.id∧e∈r∧stzF r=(e.id,e.x.fields)::stzF q∧q.length<r.length∧∀ y∈q,y∈r
 |x::r,e,q,h=>by
  unfold nextE at h
  split at h
  ·rename_i h0
   simp only [Option.some.injEq,Prod.mk.injEq] at h
   obtain⟨rfl,rfl⟩:=h
   exact⟨h0,by simp,by simp [stzF,h0],by simp,fun y hy=>by simp [hy]⟩
  ·rename_i h0
   obtain⟨h1,h2,h3,h4,h5⟩:=nextE_some h
   exact⟨h1,by simp [h2],by simpa [stzF,h0] using h3,by simp;omega,fun y hy=>by simp [h5 y hy]⟩
end Go.Pl
namespace Go.Proofs.YtmoklbacdkmkaaaGreatDoor
open Go Go.Av Go.RowKit Go.Proofs Go.Pl
theorem own_at {m:Nat} {T:TypeId} {S':List AObj} {cs0:List AV} (h:S'.length=m∨∃ cs,S'[m]? = some (.cells 0 T cs)):∃ cs,(S'++[AObj.cells 0 T cs0])[m]? = some (.cells 0 T cs):=by
 rcases h with rfl | ⟨cs,h⟩
 ·exact⟨cs0,by simp⟩
 ·exact⟨cs,by rw [List.getElem?_append_left (lt_of_getElem? h)];exact h⟩
theorem own_le {m:Nat} {T:TypeId} {S':List AObj} (h:S'.length=m∨∃ cs,S'[m]? = some (.cells 0 T cs)):m≤S'.length:=by
 rcases h with rfl | ⟨cs,h⟩
 ·omega
 ·exact Nat.le_of_lt (lt_of_getElem? h)
theorem stA_nil {L:List (Tmp×AV)} {st:List AObj} {df:List Nat} {s:AS} (h:StA L st df s):StA L (st++[]) df s:=by
 rw [List.append_nil]
 exact h
theorem all1s_c (l:zx) (o kb n m:Nat) (I:List EntV→List AObj→Prop) (D:List AObj→Prop) (S:List AObj) (hm:S.length=m) (hn:n≤m) (hl:l.ents.length<1000000) (h0:I l.ents S)
  (hI:∀ r S',I r S'→S'[kb]? = some (.cells 0 27 [qar l]))
  (hst:∀ r S' S'',Ext n S' S''→I r S'→I r S'')
  (hY:∀ r e q S' cs,I r S'→S'[m]? = some (.cells 0 139 cs)→nextE r=some (e,q)→yv E o [entA e] S' fun b S''=>S''[m]? = some (.cells 0 139 cs)∧(b=true→I q S'')∧(b=false→D S'')) :
  qn E 145 [.yd o,.bx kb 0 0] S fun r S'=>(∃ i,nextE i=none∧I i S')∨D S':=by
 refine qo Tryz.func145 rfl (Nat.le_of_ble_eq_true rfl) ?_
 have hb:=hI _ S h0
 have hmi:(l.ents.map entA).length=l.ents.length:=by simp
 repeat' (first|apply qk|apply qu|apply qc|apply qd|apply qj|(apply qa;exact rfl;apply cd_f;exact cRa)|(apply zl;(iterate 4 exact rfl))|(apply vm;(iterate 4 exact rfl))|(apply zn;(iterate 3 exact rfl))|(apply kh;exact rfl;exact rfl)|(apply wh;(iterate 3 exact rfl))|apply qs|(apply qcb;exact rfl;exact rfl;exact hb;exact rfl;exact rfl))
 refine xt (fun (k:Nat) s=>∃ S' r,I r S'∧(S'.length=m∨∃ cs,S'[m]? = some (.cells 0 139 cs))∧k≤l.ents.length∧nextE r=nextE (l.ents.drop k)∧StA [(0,.yd o),(10,.sl 4 (l.ents.map entA) none),(11,Iv l.ents.length),(12,Iv k)] (S'++[]) [] s) (fun k=>l.ents.length - k) 0
  ⟨_,_,hst _ _ _ (qy2 (by omega)) h0,.inl (by simpa using hm),by omega,by simp,stA_nil (ww ⟨rfl,rfl,congrArg (fun n:Nat=>Iv (n:Int)) hmi,rfl,trivial⟩)⟩ ?_
 rintro k _ ⟨S',r,hi,hown,hk,hnx,t,rfl⟩
 have hml:=own_le hown
 by_cases hkn:k<l.ents.length
 ·have hx:l.ents[k]? = some l.ents[k]:=List.getElem?_eq_getElem hkn
  have hxm:(l.ents.map entA)[k]? = some (entA l.ents[k]):=by rw [List.getElem?_map,hx];rfl
  rw [List.drop_eq_getElem_cons hkn,nextE] at hnx
  generalize l.ents[k]=e at hx hxm hnx
  obtain⟨cs,hcs⟩:=own_at (cs0:=(entA e).cells) hown
  by_cases he:0<e.id
  ·rw [if_pos he] at hnx
   repeat' (first|apply qk|apply qu|apply qc|apply qd|apply qj|(apply qq;(iterate 3 exact rfl))|(apply ze;(iterate 4 exact rfl))|(apply yu;exact cAo)|(apply qa;exact rfl;apply kl;exact cAo)|(apply zm;exact rfl;exact rfl)|(apply qz;(iterate 3 exact rfl))|(apply zn;(iterate 3 exact rfl))|(apply zh;(iterate 5 exact rfl))|(apply zf;(iterate 11 exact rfl))|apply qs|(apply z6 (n:=k);(iterate 5 exact rfl);exact hxm))
   apply qfq (o:=o) rfl
   refine yv.mono (hY r e _ _ cs (hst _ _ _ (qy2 (by omega)) hi) hcs hnx) ?_
   rintro b S2 ⟨h1,h2,h3⟩
   show AOps _ _ _ _ _ _ _
   cases b
   ·skip
    repeat' (first|apply qd|(apply jc;exact rfl)|(apply ze;(iterate 4 exact rfl))|(apply yu;exact cAo)|(apply qi;exact rfl;apply y6;exact cAo)|(apply qa;exact rfl;apply qd8;exact cRa)|apply qr)
    exact ql rfl (qav rfl) (.inr (h3 rfl))
   ·skip
    repeat' (first|apply qc|apply qd|apply qj|(apply jc;exact rfl)|(apply ze;(iterate 4 exact rfl))|(apply yu;exact cAo)|(apply qi;exact rfl;apply y6;exact cAo)|(apply qa;exact rfl;apply qe4;exact cRa)|(apply zv;exact rfl;exact rfl;exact q5 (by omega) (by omega))|apply qs)
    exact⟨k+1,⟨_,_,h2 rfl,.inr ⟨cs,h1⟩,by omega,rfl,stA_nil (ww ⟨rfl,rfl,rfl,rfl,trivial⟩)⟩,by omega⟩
  ·rw [if_neg he] at hnx
   repeat' (first|apply qk|apply qu|apply qc|apply qd|apply qj|(apply qq;(iterate 3 exact rfl))|(apply ze;(iterate 4 exact rfl))|(apply yl;exact cAo)|(apply qi;exact rfl;apply yo;exact cAo)|(apply qa;exact rfl;apply kl;exact cAo)|(apply qa;exact rfl;apply cd_f;exact cRa)|(apply zv;exact rfl;exact rfl;exact q5 (by omega) (by omega))|(apply zm;exact rfl;exact rfl)|(apply qz;(iterate 3 exact rfl))|(apply zn;(iterate 3 exact rfl))|(apply zh;(iterate 5 exact rfl))|(apply zf;(iterate 11 exact rfl))|apply qs|(apply z6 (n:=k);(iterate 5 exact rfl);exact hxm))
   exact⟨k+1,⟨_,_,hst _ _ _ (qy2 (by omega)) hi,.inr ⟨cs,hcs⟩,by omega,hnx,stA_nil (ww ⟨rfl,rfl,rfl,rfl,trivial⟩)⟩,by omega⟩
 ·rw [List.drop_of_length_le (by omega),nextE] at hnx
  repeat' (first|apply qk|apply qc|apply qd|(apply qq;(iterate 3 exact rfl))|(apply qa;exact rfl;apply ko;exact cAo)|apply jp)
  exact ql rfl (qav rfl) (.inl ⟨r,hnx,hst _ _ _ (qy2 (by omega)) hi⟩)
def allY (r:List EntV):Option (SV×List EntV):=(nextE r).map fun x=>(.a (entA x.1),x.2)
theorem all_it (l:zx) (hl:l.ents.length<1000000):ItC 145 27 [qar l] (evY allY) l.ents:=⟨fun o kb n m I D S hm hn h0 hI hst hY=>by
 refine (all1s_c l o kb n m I D S hm hn hl h0 hI hst fun r e q S' cs hi hown hx=>?_).mono ?_
 ·refine (hY r (entA e) q S' [.cells 0 139 cs] hi (fun j y hy=>?_) (by simp [evY,allY,hx,SV.ev])).mono fun b S'' ⟨h1,h2,h3⟩=>⟨by have:=h1 0 _ rfl;simpa using this,h2,h3⟩
  match j with
  | 0=>
   simp only [List.getElem?_cons_zero,Option.some.injEq] at hy
   subst hy
   exact⟨hown,qag rfl⟩
  |j+1=>simp at hy
 ·rintro r S' (⟨i,h1,h2⟩|h)
  ·exact .inl ⟨i,by simp [evY,allY,h1],h2⟩
  ·exact .inr h⟩
theorem lall_c (l:zx):ku E 79 [.a (qar l)] 0 (hpF []) ⟨.fn (.func 145) [] [.bx 0 0],vl [],[(0,some (.cells 27 [.a (qar l)]))]++vw [],1⟩:=by
 refine xq [.a (qar l)] [] 0 (.fn (.func 145) [] [.bx 0 0]) [(0,some (.cells 27 [.a (qar l)]))] 1 Tryz.func79 rfl rfl rfl rfl fun S F ρ=>?_
 apply qh [1]
 repeat' (first|apply And.intro|(intro h;try exact cDd)|exact cSd|apply qb [1]|refine exr ?_|refine qm ?_)
@[reducible] def stzA (x : Int × List Fld) : AV := .ag [Iv x.1, kv x.2]
@[reducible] def stzsA (s : List (Int × List Fld)) : AV := .sl 2 (s.map stzA) none
theorem stzsA_pure (s:List (Int×List Fld)):Pure (stzsA s):=qdd fun x hx=>by
 obtain⟨f,_,rfl⟩:=List.mem_map.1 hx
 intro y hy
 simp only [AV.cells,List.mem_cons,List.not_mem_nil,or_false] at hy
 rcases hy with rfl|rfl
 ·exact q6 _
 ·exact qdk _
theorem stzF_len (es:List EntV):(stzF es).length≤es.length:=by
 unfold stzF
 rw [List.length_map]
 exact List.length_filter_le _ _
theorem sem_rangeAll {N:Nat} {B:Bs} {C:Conf} {Q:Exit→Conf→Prop} {X:Type} {f:Operand} {p:Tmp} {asg body:Code} (l:zx) (kb n0:Nat) (ks:List Nat) (I:X→Conf) (sl0:List (Nat×SV)) (P:List EntV→X→Prop) (D:Code→X→Prop) (x0:X) (h0:P l.ents x0)
  (he:EntA B.n0 C (I x0)) (hz:¬ B.dz) (hl:l.ents.length<1000000) (hsl:∀ x,(I x).sl=sl0)
  (hf:sval N sl0 f=some (.fn (.func 145) [] [.bx kb 0]))
  (hkb:∀ x,lkS (I x).hp kb=some (some (.cells 27 [.a (qar l)])))
  (hr:∀ x,qd3 n0 ks (I x).sl (I x).hp (I x).nx=true) (h0r:(ksIn n0 ks (I x0).hp && Nat.ble B.n0 n0)=true)
  (hb:∀ r e q x,P r x→nextE r=some (e,q)→RA E N n0 asg (fun F ρ C1=>RB E N F ρ n0 body (rndQ n0 (P q) D I) C1) ⟨(p,.a (entA e))::(I x).sl,(I x).hp,(I x).nx⟩)
  (hn:∀ r x,nextE r=none→P r x→Q .normal (I x)) (hd:∀ c x,D c x→q7m Q c (I x)):Sm E none N B (.rangeFunc f #[p] asg body) Q C:=by
 refine qx1 (all_it l hl) Tryz.call145 (fun i v j h=>?_) kb n0 [.a (qar l)] (fun _=>rfl) ks I sl0 P D x0 h0 he hz hsl hf hkb hr h0r (fun i x v j hp h=>?_) (fun i x h hp=>?_) hd
 ·unfold allY at h
  cases hx:nextE i with
  |none=>rw [hx] at h;simp at h
  |some y=>
   rw [hx] at h
   simp only [Option.map_some,Option.some.injEq,Prod.mk.injEq] at h
   rw [← h.1]
   rfl
 ·unfold allY at h
  cases hx:nextE i with
  |none=>rw [hx] at h;simp at h
  |some y=>
   rw [hx] at h
   simp only [Option.map_some,Option.some.injEq,Prod.mk.injEq] at h
   obtain⟨h1,h2⟩:=h
   rw [← h1,← h2]
   exact hb i y.1 y.2 x hp hx
 ·unfold allY at h
  cases hx:nextE i with
  |none=>exact hn i x hx hp
  |some y=>rw [hx] at h;simp at h
theorem lstanzas_c (l:zx) (st:List AObj) (hl:l.ents.length<1000000) (hI:∀ e∈l.ents,e.x.fields.length<1000000):qn E 31 [qar l] st fun r st'=>r=stzsA (stzF l.ents)∧st'=st:=by
 refine vc [.a (qar l)] (stzsA_pure _) Tryz.func31 rfl rfl (fun _=>rfl) rfl fun S0=>?_
 apply qh []
 repeat' (first|apply And.intro|(intro h;try exact cDd)|exact⟨Tryz.call79⟩|(refine jh (lall_c l) ?_)|exact cSd|apply qb []|refine exr ?_|refine qm ?_)
 refine sem_rangeAll (X:=List (Int×List Fld)) l 1 2 [0,1] (fun out=>⟨[(3,.bx 0 0),(6,.fn (.func 145) [] [.bx 1 0])],[(0,some (.cells 63 [.tp 2])),(1,some (.cells 27 [.a (qar l)])),(2,some (.tip 2 149 (out.map stzA)))],3⟩) _
  (fun r out=>out++stzF r=stzF l.ents∧out.length+r.length≤l.ents.length∧∀ y∈r,y∈l.ents) (fun _ _=>False) [] ⟨by simp,by simp,fun _ h=>h⟩ ?_ id hl (fun _=>rfl) rfl (fun _=>rfl) (fun _=>rfl) rfl ?_ ?_ (fun _ _ h=>h.elim)
 ·skip
  repeat' (first|apply And.intro|(intro h;try exact cDd)|exact cSd|apply qb []|refine exr ?_|refine qm ?_)
 ·rintro r e q out ⟨h1,h2,h3⟩ hx
  obtain⟨g1,g2,g3,g4,g5⟩:=nextE_some hx
  rw [g3] at h1
  have hcl:=fun st=>q00 e.x.fields st (hI e (h3 e g2))
  have hml:(out.map stzA).length=out.length:=by simp
  refine RA.mk fun S F ρ rd=>?_
  apply qh []
  repeat' (first|apply And.intro|(intro h;try exact cDd)|(refine RB.mk fun S rd=>?_;apply qh [])|exact⟨Tryz.call80⟩|refine cpe hcl ?_|(refine Exists.intro (out++[(e.id,e.x.fields)]) ⟨⟨by rw [← h1];simp,by simp;omega,fun y hy=>h3 y (g5 y hy)⟩,?_⟩)|exact cSd|apply qb []|refine exr ?_|refine qm ?_)
  all_goals first|(simp [SV.evs,SV.ev];done)|(simp [SV.evs];omega)
 ·rintro r out hx ⟨h1,h2,h3⟩
  rw [nextE_none hx,List.append_nil] at h1
  rw [← h1]
  repeat' (first|apply And.intro|(intro h;try exact cDd)|exact cSd|apply qb []|refine exr ?_|refine qm ?_)
theorem numStz_c (s:List (Int×List Fld)) (st:List AObj) (hl:s.length<1000000) (hf:∀ x∈s,x.2.length<1000000):qn E 30 [stzsA s,stzsA s] st fun r st'=>r=Bv true∧st'=st:=by
 refine vc [.a (stzsA s),.a (stzsA s)] (q6 _) Tryz.func30 rfl rfl (fun _=>rfl) rfl fun S0=>?_
 have hmi:(s.map stzA).length=s.length:=by simp
 apply qh []
 repeat' (first|apply And.intro|(intro h;try exact cDd)|exact cSd|apply qb []|refine exr ?_|refine qm ?_)
 refine yt (X:=Nat) (fun k=>⟨[(0,.a (stzsA s)),(1,.a (stzsA s)),(12,.i s.length),(13,.i k)],[],0⟩) (fun k=>k≤s.length) (fun k=>s.length - k) 0 (by omega) ?_ ?_
 ·skip
  repeat' (first|apply And.intro|(intro h;try exact cDd)|exact cSd|apply qb []|refine exr ?_|refine qm ?_)
  all_goals (simp;done)
 ·rintro k hk
  by_cases hkn:k<s.length
  ·have hx:s[k]? = some s[k]:=List.getElem?_eq_getElem hkn
   have hxm:(s.map stzA)[k]? = some (stzA s[k]):=by rw [List.getElem?_map,hx];rfl
   have hxf:=hf s[k] (List.getElem_mem hkn)
   generalize s[k]=x at hx hxm hxf
   have hfe:=fun st=>fieldsN_c x.2 x.2 st (by omega)
   rw [decide_eq_true rfl] at hfe
   apply qh []
   repeat' (first|apply And.intro|(intro h;try exact cDd)|(refine Exists.intro (k) ⟨by omega,_,hxm,?_⟩)|exact⟨Tryz.call78⟩|refine cpe hfe ?_|(refine Exists.intro (k+1) ⟨by omega,by omega,?_⟩)|exact cSd|apply qb []|refine exr ?_|refine qm ?_)
  ·have hkn:k=s.length:=by omega
   subst hkn
   apply qh []
   repeat' (first|apply And.intro|(intro h;try exact cDd)|exact cSd|apply qb []|refine exr ?_|refine qm ?_)
theorem stzF_fl {es:List EntV} {n:Nat} (h:∀ e∈es,e.x.fields.length<n):∀ x∈stzF es,x.2.length<n:=fun x hx=>by
 obtain⟨e,he,rfl⟩:=List.mem_map.1 hx
 exact h e (List.mem_filter.1 he).1
theorem playFrom_snoc:∀ (bs:List (List qp)) (r r':RunV) (x:List qp),qbx bs r=(.no,r')→(doF r'.l x).1 = .no→qbx (bs++[x]) r=(.no,qd7 r' x)
 | [],r,r',x,h,hd=>by
  simp only [qbx,Prod.mk.injEq,true_and] at h
  subst h
  show qbx [x] r=_
  unfold qbx
  rw [if_pos hd]
  rfl
 |b::q,r,r',x,h,hd=>by
  unfold qbx at h
  show qbx (b::(q++[x])) r=_
  unfold qbx
  split at h
  ·rename_i hb
   rw [if_pos hb]
   exact playFrom_snoc q _ _ _ h hd
  ·simp at h
theorem playF_snoc {base:Bytes} {bs:List (List qp)} {r:RunV} {x:List qp} (h:y4 base bs=(.no,r)) (hd:(doF r.l x).1 = .no):y4 base (bs++[x])=(.no,qd7 r x):=by
 unfold y4 at h ⊢
 split at h
 ·rename_i hp
  rw [if_pos hp]
  exact playFrom_snoc _ _ _ _ h hd
 ·rename_i hp
  simp only [Prod.mk.injEq] at h
  exact absurd h.1 hp
set_option maxHeartbeats 4000000 in
theorem replayGrows_c (text:Bytes) (x:List qp) (cut:Int) (st:List AObj) (hA:ArgE x):qn E 5 [Sv text,jk x,Iv cut] st fun r st'=>r=Bv true∧st'=st:=by
 refine vc [.s text,.a (jk x),.i cut] (q6 _) Tryz.func5 rfl rfl (fun _=>rfl) rfl fun S0=>?_
 have hal:=alive14_c
 have hhv:=fun st=>q5j x st hA.1 fun y hy=>(hA.2 y hy).1
 by_cases h4:4000<text.length
 ·apply qh []
  repeat' (first|apply And.intro|(intro h;try exact cDd)|exact⟨Tryz.call11⟩|refine cpe hal ?_|exact cSd|apply qb []|refine exr ?_|refine qm ?_)
 cases hh:qdu x 0 with
 |true=>
  rw [hh] at hhv
  apply qh []
  repeat' (first|apply And.intro|(intro h;try exact cDd)|exact⟨Tryz.call11⟩|refine cpe hal ?_|exact⟨Tryz.call26⟩|refine cpe hhv ?_|exact cSd|apply qb []|refine exr ?_|refine qm ?_)
 |false=>
 rw [hh] at hhv
 have hL:=qtu hh
 have hB:=q78 hA hL
 have hx:=hL.1
 have hrt:=fun st=>qyr text st (by omega)
 by_cases hr:(qay text).1 = .no
 case neg=>
  unfold ql2 at hrt
  generalize qay text=q at hrt hr
  obtain⟨e,b,l⟩:=q
  cases e
  case no=>exact absurd rfl hr
  all_goals
   apply qh []
   repeat' (first|apply And.intro|(intro h;try exact cDd)|exact⟨Tryz.call11⟩|refine cpe hal ?_|exact⟨Tryz.call26⟩|refine cpe hhv ?_|exact⟨Tryz.call12⟩|refine cpe hrt ?_|exact cSd|apply qb []|refine exr ?_|refine qm ?_)
 obtain⟨b,r,hT,hp,he⟩:=q0n hr
 rw [he] at hrt
 replace hrt:∀ st,qn E 12 [Sv text] st fun q st'=>q = .tu [qe0 b,qar r.l,errA .no]∧st'=st:=hrt
 have hS:=qnd hT
 have hBk:=qu1 hT
 have hpk:=playF_ok b.base b.batches hBk.len
 rw [hp] at hpk
 obtain⟨hlb,_,hli⟩:=hpk
 dsimp only at hlb hli
 have hdo:=fun st=>qz6 860000 r.l x st hlb (by omega) hB (by omega)
 have hap:=fun st=>qv4 text x st (by omega) hB (by omega)
 have hai:=@q8r text
 have hwb:=q15 hlb (by omega) x
 have hwi:=doF_li hli x
 have hsn:=@playF_snoc b.base b.batches r x hp
 have htr:(qd7 r x).l=(doF r.l x).2.1:=rfl
 cases hpk:Go.Pl.appF text x with
 |mk f s=>
 rw [hpk] at hap
 dsimp only at hap
 have hai:=fun h=>hai (s:=s) (x:=x) hB (hpk.trans h)
 by_cases hg:(doF r.l x).1 = .no∧f = .no
 case neg=>
  unfold doA at hdo
  generalize doF r.l x=d at hdo hg
  obtain⟨e,w,ids⟩:=d
  dsimp only at hg
  cases e <;> cases f
  ·exact absurd ⟨rfl,rfl⟩ hg
  all_goals
   apply qh []
   repeat' (first|apply And.intro|(intro h;try exact cDd)|exact⟨Tryz.call11⟩|refine cpe hal ?_|exact⟨Tryz.call26⟩|refine cpe hhv ?_|exact⟨Tryz.call12⟩|refine cpe hrt ?_|exact⟨Tryz.call27⟩|refine cpe hdo ?_|exact⟨Tryz.call28⟩|refine cpe hap ?_|exact cSd|apply qb []|refine exr ?_|refine qm ?_)
 obtain⟨hg,rfl⟩:=hg
 have hsn:=hsn hg
 unfold doA at hdo
 rw [hg] at hdo
 dsimp only at hdo
 generalize hw:qd7 r x=r2 at hsn htr
 rw [← htr] at hdo hwb hwi
 clear hw htr
 obtain⟨b',hT',hG,hs,hs2⟩:=hai rfl
 obtain rfl:b=b':=by
  have e:=qq3 hT'
  have e2:=qq3 hT
  rw [e2] at e
  simpa using e
 by_cases h10:100000<s.length
 ·apply qh []
  repeat' (first|apply And.intro|(intro h;try exact cDd)|exact⟨Tryz.call11⟩|refine cpe hal ?_|exact⟨Tryz.call26⟩|refine cpe hhv ?_|exact⟨Tryz.call12⟩|refine cpe hrt ?_|exact⟨Tryz.call27⟩|refine cpe hdo ?_|exact⟨Tryz.call28⟩|refine cpe hap ?_|exact cSd|apply qb []|refine exr ?_|refine qm ?_)
 have hw0:=hS.whole
 have hwl:=hS.wlen
 have hpos:=qko x
 have hsl:s.length=(zi b).length+(recE x).length:=by rw [hs];simp
 obtain⟨m,hm,hmd,hne⟩:=q7s cut ((s.length:Int) - (zi b).length) (by omega) (by omega)
 have htk:s.take ((zi b).length+m)=zi b++(recE x).take m:=by rw [hs,List.take_append];simp;exact List.take_of_length_le (by omega)
 have hc0:=hT.tailed (t:=(recE x).take m) (by rw [show q9 ((recE x).take m)=(2,[],0) from rec_part hG.good (List.take_prefix _ _) (by simp [recE] at *;omega)]) (by rw [← htk];simp;omega)
 have hd0:=hT.more hG (by rw [← hs];omega)
 rw [← htk] at hc0
 rw [← hs] at hd0
 have hrs:=fun st=>qyr s st (by omega)
 rw [q22 hd0 hsn] at hrs
 have hrc:=fun st=>qyr (s.take ((zi b).length+m)) st (by simp;omega)
 rw [q22 hc0 hp] at hrc
 have hW:=fun st=>qua b st hS.base hS.ends
 rw [hw0] at hW
 have hI1:∀ e∈r.l.ents,e.x.fields.length<1000000:=fun e he=>by have:=(hli e he).2;omega
 have hI2:∀ e∈r2.l.ents,e.x.fields.length<1000000:=fun e he=>by have:=(hwi e he).2;omega
 have hl1:r.l.ents.length<1000000:=by have:=hlb.len;omega
 have hl2:r2.l.ents.length<1000000:=by have:=hwb.len;omega
 have ht1:=fun st=>ltext_c r.l st (itsB_of hlb hli) (textL_le hlb hli)
 have ht2:=fun st=>ltext_c r2.l st (itsB_of hwb hwi) (textL_le hwb hwi)
 have hn2:=fun st=>lnext_c r2.l st
 have hz1:=fun st=>lstanzas_c r.l st hl1 hI1
 have hz2:=fun st=>lstanzas_c r2.l st hl2 hI2
 have hq1:=fun st=>numStz_c (stzF r.l.ents) st (Nat.lt_of_le_of_lt (stzF_len _) hl1) (stzF_fl hI1)
 have hq2:=fun st=>numStz_c (stzF r2.l.ents) st (Nat.lt_of_le_of_lt (stzF_len _) hl2) (stzF_fl hI2)
 generalize stzF r.l.ents=z1 at hz1 hq1
 generalize stzF r2.l.ents=z2 at hz2 hq2
 generalize textL r.l=t1 at ht1
 generalize textL r2.l=t2 at ht2
 replace hrs:∀ st,qn E 12 [Sv s] st fun q st'=>q = .tu [.ag [Iv b.gen,Sv b.base,qc9 (b.batches++[x]),qdg (b.ends++[qa0 b+(recE x).length]),Sv []],qar r2.l,errA .no]∧st'=st:=hrs
 replace hrc:∀ st,qn E 12 [Sv (s.take ((zi b).length+m))] st fun q st'=>q = .tu [.ag [Iv b.gen,Sv b.base,qc9 b.batches,qdg b.ends,Sv ((recE x).take m)],qar r.l,errA .no]∧st'=st:=hrc
 apply qh []
 repeat' (first|apply And.intro|(intro h;try exact cDd)|exact⟨Tryz.call11⟩|refine cpe hal ?_|exact⟨Tryz.call26⟩|refine cpe hhv ?_|exact⟨Tryz.call12⟩|refine cpe hrt ?_|exact⟨Tryz.call12⟩|refine cpe hrs ?_|exact⟨Tryz.call12⟩|refine cpe hrc ?_|exact⟨Tryz.call27⟩|refine cpe hdo ?_|exact⟨Tryz.call28⟩|refine cpe hap ?_|exact⟨Tryz.call29⟩|refine cpe hW ?_|exact⟨Tryz.call16⟩|refine cpe ht1 ?_|exact⟨Tryz.call16⟩|refine cpe ht2 ?_|exact⟨Tryz.call18⟩|refine cpe hn2 ?_|exact⟨Tryz.call31⟩|refine cpe hz1 ?_|exact⟨Tryz.call31⟩|refine cpe hz2 ?_|exact⟨Tryz.call30⟩|refine cpe hq1 ?_|exact⟨Tryz.call30⟩|refine cpe hq2 ?_|(refine Exists.intro ((zi b).length+m) ⟨by omega,?_⟩)|exact cSd|apply qb []|refine exr ?_|refine qm ?_)
theorem replayGrows_a (text:Bytes) (x:List qp) (hA:ArgE x) (cut:Int) (hc : -9223372036854775808≤cut∧cut≤9223372036854775807) (st:List AObj):qn E 5 [Sv text,jk x,Iv cut] st fun r st'=>r=Bv true∧st'=st:=replayGrows_c text x cut st hA
end Go.Proofs.YtmoklbacdkmkaaaGreatDoor
