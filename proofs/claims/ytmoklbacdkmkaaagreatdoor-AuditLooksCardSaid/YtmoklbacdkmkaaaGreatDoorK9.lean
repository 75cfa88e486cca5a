/- Contracts and plain facts that the closing text leans on (part 9). No condition of their own beyond those that each states. -/
import Derived.Test.YtmoklbacdkmkaaaGreatDoorK8
import Derived.Lib.SliceRun
set_option maxRecDepth 100000
set_option linter.unusedVariables false
set_option linter.unusedSimpArgs false
namespace Go.Pl
open Go Go.Proofs
structure EntV where
 x:zv
 id:Int
structure zg where
 ents:List EntV
 next:Int
 many:Int
def qbz (l:zg) (x:zv):zg:=if x.kind=3 then⟨l.ents++[⟨x,l.next⟩],l.next+1,l.many+1⟩ else⟨l.ents++[⟨x,0⟩],l.next,l.many⟩
def ofF (its:List zv):zg:=its.foldl qbz ⟨[],1,0⟩
end Go.Pl
namespace Go.Proofs.YtmoklbacdkmkaaaGreatDoor
open Go Go.Av Go.RowKit Go.Proofs Go.Pl
@[reducible] def entA (e : EntV) : AV := .ag [Iv e.x.kind, Sv e.x.raw, jw e.x.fields, Iv e.id]
@[reducible] def y5 (l : zg) : AV := .pp [.sl 4 (l.ents.map entA) none, Iv l.next, Iv l.many]
def qon (e:ErrV) (l:zg):AV:=match e with
 | .no=>.tu [y5 l,errA .no]
 |e=>.tu [.v (.pointer none),errA e]
theorem qsz (e:EntV):ql5 (entA e):=fun y hy=>by
 simp only [AV.cells,List.mem_cons,List.not_mem_nil,or_false] at hy
 rcases hy with rfl|rfl|rfl|rfl
 ·exact qs _
 ·exact qs _
 ·exact qc4 _
 ·exact qs _
theorem qil (l:zg):Pure (y5 l):=qvi fun x hx=>by
 simp only [List.mem_cons,List.not_mem_nil,or_false] at hx
 rcases hx with rfl|rfl|rfl
 ·exact qco fun x hx=>by
   obtain⟨f,_,rfl⟩:=List.mem_map.1 hx
   exact qsz f
 ·exact qs _
 ·exact qs _
theorem qlc (e:ErrV) (l:zg):Pure (qon e l):=by
 cases e with
 |no=>exact kj (qil l) (vl _)
 |num n=>exact kj (qs _) (vl _)
 |at' a n=>exact kj (qs _) (vl _)
theorem qit:∀ (n:Nat) (rest:Bytes) (k:Nat) (p:PSt),rest.length≤n→PB (4 * k) p→k+rest.length≤60000→(runL k (zr rest) p).2.items.length≤300000:=by
 have nil:∀ (k:Nat) (p:PSt),PB (4 * k) p→k≤60000→(runL k (zr []) p).2.items.length≤300000:=fun k p hB hk=>by
  have e:jr p 0 [] true 1=endP p:=rfl
  have h:=qj3 (no:=0) (text:=[]) (ended:=true) (kind:=1) hB (by omega) (by simp)
  rw [e] at h
  have e2:runL k (zr []) p=endP p:=by rw [v6];rfl
  rw [e2]
  have:=h.items
  omega
 intro n
 induction n with
 |zero=>
  intro rest k p hr hB hk
  obtain rfl:rest=[]:=List.eq_nil_of_length_eq_zero (by omega)
  exact nil k p hB (by simpa using hk)
 |succ n ih=>
  intro rest k p hr hB hk
  by_cases hne:rest=[]
  ·subst hne
   exact nil k p hB (by simpa using hk)
  ·have hu:=ko 10 rest
   have hpl:=km 10 rest
   have hr0:0<rest.length:=List.length_pos_iff.2 hne
   rw [wv hne]
   simp only [runL]
   have hB2:=qrt (no:=k) (text:=upto 10 rest) (ended:=decide (10∈rest)) hB (by omega) (by omega)
   split
   ·have:=hB.items
    simp only
    omega
   ·exact ih (past 10 rest) (k+1) _ (by omega) hB2 (by omega)
theorem qjk (text:Bytes):(itsE text).length≤300000:=by
 unfold itsE
 split
 ·simp
 ·have h:=qit text.length text 0 p0 (Nat.le_refl _) q7d (by omega)
  unfold jz
  split
  ·simp
  ·exact h
theorem q0w (text:Bytes) (st:List AObj) (hl:text.length<1000000):qp E 87 [Sv text] st fun r st'=>r=qon (jt text) (ofF (itsE text))∧st'=st:=by
 refine qrl [.s text] (qlc _ _) Tryz.func87 rfl rfl (fun _=>rfl) rfl fun S0=>?_
 have hp:=fun st=>qo5 text st hl
 have hil:=qjk text
 generalize itsE text=its at hp hil
 cases he:jt text with
 |num n=>
  rw [he] at hp
  apply qe [19]
  repeat' (first|apply And.intro|(intro h;try exact cDd)|exact⟨Tryz.call58⟩|refine cpe hp ?_|exact cSd|apply qc [19]|refine exr ?_|refine qi ?_)
 |at' a n=>
  rw [he] at hp
  apply qe [19]
  repeat' (first|apply And.intro|(intro h;try exact cDd)|exact⟨Tryz.call58⟩|refine cpe hp ?_|exact cSd|apply qc [19]|refine exr ?_|refine qi ?_)
 |no=>
  rw [he] at hp
  apply qe [19]
  repeat' (first|apply And.intro|(intro h;try exact cDd)|exact⟨Tryz.call58⟩|refine cpe hp ?_|exact cSd|apply qc [19]|refine exr ?_|refine qi ?_)
  refine jf (X:=Nat×zg) (fun (k,l)=>⟨[(6,.bx 0 0),(20,.a (js its)),(21,.i its.length),(22,.i k)],[(0,some (.cells 112 [.tp 1,.i l.next,.i l.many])),(1,some (.tip 4 139 (l.ents.map entA)))],2⟩)
   (fun (k,l)=>k≤its.length∧l.ents.length=k∧(1≤l.next∧l.next≤k+1∧0≤l.many∧l.many≤k)∧(its.drop k).foldl qbz l=ofF its) (fun (k,l)=>its.length - k) (0,⟨[],1,0⟩) ⟨by omega,rfl,⟨by decide,by decide,by decide,by decide⟩,rfl⟩ ?_ ?_
  ·skip
   repeat' (first|apply And.intro|(intro h;try exact cDd)|exact cSd|apply qc []|refine exr ?_|refine qi ?_)
   all_goals (simp;done)
  ·rintro⟨k,l⟩ ⟨hk,hlk,hnx,hrun⟩
   by_cases hkn:k<its.length
   ·have hx:its[k]? = some its[k]:=List.getElem?_eq_getElem hkn
    have hxm:(its.map z6)[k]? = some (z6 its[k]):=by rw [List.getElem?_map,hx];rfl
    rw [List.drop_eq_getElem_cons hkn,List.foldl_cons] at hrun
    have hml:(l.ents.map entA).length=l.ents.length:=by simp
    generalize its[k]=x at hx hxm hrun
    by_cases hk3:x.kind=3
    ·have e:qbz l x=⟨l.ents++[⟨x,l.next⟩],l.next+1,l.many+1⟩:=if_pos hk3
     rw [e] at hrun
     apply qe []
     repeat' (first|apply And.intro|(intro h;try exact cDd)|(refine Exists.intro (k) ⟨by omega,_,hxm,?_⟩)|(refine Exists.intro (k+1,⟨l.ents++[⟨x,l.next⟩],l.next+1,l.many+1⟩) ⟨⟨by omega,by simp [hlk],by simp only;omega,hrun⟩,by simp only;omega,?_⟩)|exact cSd|apply qc []|refine exr ?_|refine qi ?_)
     all_goals (simp;done)
    ·have e:qbz l x=⟨l.ents++[⟨x,0⟩],l.next,l.many⟩:=if_neg hk3
     rw [e] at hrun
     apply qe []
     repeat' (first|apply And.intro|(intro h;try exact cDd)|(refine Exists.intro (k) ⟨by omega,_,hxm,?_⟩)|(refine Exists.intro (k+1,⟨l.ents++[⟨x,0⟩],l.next,l.many⟩) ⟨⟨by omega,by simp [hlk],by simp only;omega,hrun⟩,by simp only;omega,?_⟩)|exact cSd|apply qc []|refine exr ?_|refine qi ?_)
     all_goals (simp;done)
   ·have hkn:k=its.length:=by omega
    subst hkn
    rw [List.drop_length] at hrun
    have e:ofF its=l:=hrun.symm
    rw [e]
    apply qe []
    repeat' (first|apply And.intro|(intro h;try exact cDd)|exact cSd|apply qc []|refine exr ?_|refine qi ?_)
end Go.Proofs.YtmoklbacdkmkaaaGreatDoor
namespace Go.Av
open Go Go.RowKit
theorem qk4 {E:Env} {rd:Option Nat} {N:Nat} {ops:Array Oper} {K:AS→Prop} {s:AS} {rest:List Oper} {d:Option Tmp} {T:TypeId} {p:String} {af:Array Edge} {x:Operand} {t t' te:TypeId} {sz:Nat} {xs:List AV} {tip:Option Nat} (hx:qm N s x = .sl sz xs tip) (hu:E.P.underlying t=some (.slice te))
  (h1:xs=[]→AOps E rd N ops rest K (s.put d (Bv true))) (h2:AOps E rd N ops rest K (s.put d (Bv false))):AOps E rd N ops (⟨d,.binOp .eql t x (.const (.slice none 0 0)) t',T,p,af,none⟩::rest) K s:=by
 refine q9 rfl (q7 nofun fun B0 w0 G a w _ hI=>?_)
 have he:=hI.eval_of hx
 have key:∃ q n c,a.eval x = .slice q n c∧(q.isNone=true→xs=[]):=by
  generalize a.eval x=u at he
  cases he with
  |sl0=>exact⟨_,_,_,rfl,fun _=>rfl⟩
  |sl=>exact⟨_,_,_,rfl,fun h=>by simp at h⟩
 obtain⟨q,n,c,hv,hq0⟩:=key
 have hc:a.eval (.const (.slice none 0 0)) = .slice none 0 0:=rfl
 have hq:=Lib.run_eql_slice_nil (P:=E.P) w t te q n c 0 0 hu
 refine⟨_,w,G,.v (.bool q.isNone),s.st,?_,.refl G,hI.agree,.v _,?_⟩
 ·generalize a.eval = ρ at hv hc
  simp [execOp,hv,hc,eqGuard_at_slice,hq]
 ·cases hb:q.isNone with
  |true=>exact h1 (hq0 hb)
  |false=>exact h2
theorem qen.len0 {c:AV} (h:qen c):∀ (G:Gh) (v:Value),Rel G c v→∃ b n cp,v = .slice b n cp∧n≤cp:=fun G v hv=>by
 obtain⟨base,rfl⟩:=h.val G v hv
 exact⟨_,_,_,rfl,Nat.le_refl _⟩
end Go.Av
namespace Go.Proofs.YtmoklbacdkmkaaaGreatDoor
open Go Go.Av Go.RowKit Go.Proofs Go.Pl
theorem qmf (fs:List Fld) (st:List AObj) (hl:fs.length<1000000):qp E 80 [jw fs] st fun r st'=>r=jw fs∧st'=st:=by
 refine qx (qc4 _) (qq Tryz.func80 rfl (Nat.le_of_ble_eq_true rfl) ?_)
 have hml:(fs.map fldA).length=fs.length:=by simp
 rw [List.append_nil]
 repeat' (first|(apply qc0 (st:=st);(iterate 6 exact rfl))|(apply qk4;exact rfl;exact rfl;intro h0)|apply qn|apply qf|apply qh|apply qj|apply qg|(apply qd;exact rfl;apply cd_t;exact cRa)|(apply qd;exact rfl;apply cd_f;exact cRa)|apply qv|apply qt|(apply qi8 (b:=st.length) (xs:=[]) (ys:=fs.map fldA) (bytes:=32);(iterate 5 exact rfl);exact⟨⟨_,_,rfl,rfl,rfl,rfl,rfl⟩⟩;(focus (repeat' (first|assumption|exact q2k _ _ _ _|exact q5o _ _ _ _ _ _ _|apply qrw|apply qxp|(refine qa8 (T:=_) (ver:=_) (cs:=_) ?_)|exact xm|exact jo rfl|apply kq|apply vg|omega|apply qcc)));(exact qg2);(first|exact rfl|exact qcz fun _=>rfl);((simp [maxLen];omega));((simp;omega));intro c' S' t1 g1 g2 g3 g4))
 ·exact qo rfl (wz (q5 rfl) (fun G v h=>by
   rw [jw,h0]
   exact qb5 h)) ⟨rfl,_,(List.append_nil st).symm⟩
 ·exact qo rfl (wz (q5 rfl) (qm7 g1)) ⟨rfl,qu9 fun j hj=>(g2.same j (by omega) (Nat.lt_of_lt_of_le hj qg2)).trans (List.getElem?_append_left hj)⟩
theorem q6f (es:List EntV) (st:List AObj) (hl:es.length<1000000):qp E 130 [.sl 4 (es.map entA) none] st fun r st'=>OwnR 4 139 (es.map entA) st (.v undef) r st':=by
 refine qq Tryz.func130 rfl (Nat.le_of_ble_eq_true rfl) ?_
 have hml:(es.map entA).length=es.length:=by simp
 rw [List.append_nil]
 by_cases he:es=[]
 ·subst he
  repeat' (first|(apply qc0 (st:=st);(iterate 6 exact rfl))|(apply qk4;exact rfl;exact rfl;intro h0)|(apply qnt (c:=.os st.length 0 0 0 0);exact rfl;exact (qoq _ _ _).len0;exact fun _ _ h=>h;exact rfl;exact rfl;exact⟨⟨_,_,rfl,rfl,rfl,rfl,rfl⟩⟩)|apply qn|apply qf|apply qh|apply qj|apply qg|(apply qd;exact rfl;apply cd_t;exact cRa)|(apply qd;exact rfl;apply cd_f;exact cRa)|apply qv|apply qt)
  ·exact qo rfl (q5 rfl) ⟨.inl ⟨rfl,q06 none⟩,Nat.le_refl _,fun _ _ _=>rfl,fun o ho=>by
   have ho:(none:Option Nat)=some o:=ho
   simp at ho⟩
  ·exact qo rfl (q5 rfl) ⟨.inl ⟨rfl,qoq _ _ _⟩,qg2,fun j hj _=>List.getElem?_append_left hj,fun o ho=>by
   have ho:(none:Option Nat)=some o:=ho
   simp at ho⟩
 ·have hne:es.map entA≠[]:=by simpa using he
  repeat' (first|(apply qc0 (st:=st);(iterate 6 exact rfl))|(apply qk4;exact rfl;exact rfl;intro h0)|(refine qfa (ys:=es.map entA) (bytes:=56) (qoq _ _ _).val (fun _ _ h=>h) rfl rfl ⟨⟨_,_,rfl,rfl,rfl,rfl,rfl⟩⟩ (qcz fun _=>rfl) hne (by simp [maxLen];omega) (by simp;omega) fun cap pad q1 q2 q3 q4=>?_)|apply qn|apply qf|apply qh|apply qj|apply qg|(apply qd;exact rfl;apply cd_t;exact cRa)|(apply qd;exact rfl;apply cd_f;exact cRa)|apply qv|apply qt)
  ·exact absurd h0 hne
  ·refine qo rfl (q5 rfl) ⟨.inr ⟨_,0,cap,pad,rfl,xm,q1,q2,q3,q4⟩,Nat.le_trans qg2 qg2,fun j hj _=>?_,fun o ho=>?_⟩
   ·show ((st++[_])++[_])[j]? = _
    rw [List.getElem?_append_left (by simp;omega),List.getElem?_append_left hj]
   ·have ho':some (st++[AObj.cells 0 139 []]).length=some o:=ho
    simp only [Option.some.injEq] at ho'
    left
    rw [← ho']
    simp
end Go.Proofs.YtmoklbacdkmkaaaGreatDoor
namespace Go.Pl
open Go Go.Proofs
def qae (id:Int):Nat→List EntV→Int
 | _,[]=> -1
 |k,e::r=>if e.id=id then (k:Int) else qae id (k+1) r
def atF (l:zg) (id:Int):Int:=if id<1 then -1 else qae id 0 l.ents
theorem qta (id:Int):∀ (es:List EntV) (k:Nat),qae id k es = -1∨∃ i e,qae id k es=((k+i:Nat):Int)∧es[i]? = some e∧e.id=id
 | [],k=>.inl rfl
 |e::r,k=>by
  unfold qae
  by_cases h:e.id=id
  ·rw [if_pos h]
   exact .inr ⟨0,e,by simp,rfl,h⟩
  ·rw [if_neg h]
   rcases qta id r (k+1) with g | ⟨i,e',g1,g2,g3⟩
   ·exact .inl g
   ·exact .inr ⟨i+1,e',by rw [g1];congr 1;omega,by simpa using g2,g3⟩
theorem qjb (l:zg) (id:Int):atF l id = -1∨∃ (i:Nat) (e:EntV),atF l id=(i:Int)∧l.ents[i]? = some e∧e.id=id∧1≤id:=by
 unfold atF
 by_cases h:id<1
 ·exact .inl (if_pos h)
 ·rw [if_neg h]
  rcases qta id l.ents 0 with g | ⟨i,e,g1,g2,g3⟩
  ·exact .inl g
  ·exact .inr ⟨i,e,by rw [g1];congr 1;omega,g2,g3,by omega⟩
end Go.Pl
namespace Go.Proofs.YtmoklbacdkmkaaaGreatDoor
open Go Go.Av Go.RowKit Go.Proofs Go.Pl
theorem zim (e:EntV) (id:Int) (st:List AObj):qp E 128 [entA e,.pp [Iv id]] st fun r st'=>r=Bv (decide (e.id=id))∧st'=st:=by
 refine zl [.a (entA e),.a (.pp [Iv id])] (qs _) Tryz.func128 rfl rfl (fun _=>rfl) rfl fun S0=>?_
 apply qe []
 repeat' (first|apply And.intro|(intro h;try exact cDd)|exact cSd|apply qc []|refine exr ?_|refine qi ?_)
@[reducible] def atFn (id : Int) : SV := .fn (.func 128) [] [.a (.pp [Iv id])]
theorem zhw (l:zg) (st:List AObj):qp E 50 [y5 l] st fun r st'=>r=Iv l.many∧st'=st:=by
 refine zl [.a (y5 l)] (qs _) Tryz.func50 rfl rfl (fun _=>rfl) rfl fun S0=>?_
 apply qe []
 repeat' (first|apply And.intro|(intro h;try exact cDd)|exact cSd|apply qc []|refine exr ?_|refine qi ?_)
@[reducible] def lstH (a : Nat) (l : zg) : List (Nat × Option SR) := [(0, some (.cells 112 [.tp a, .i l.next, .i l.many])), (a, some (.own 4 139 (l.ents.map entA)))]
theorem zc0 (es:List EntV) (id:Int) (hl:es.length<1000000):vn E 127 [.tp 0,atFn id] 1 (hpF [(0,some (.own 4 139 (es.map entA)))]) ⟨.i (qae id 0 es),wi [(0,some (.own 4 139 (es.map entA)))],[(0,some (.own 4 139 (es.map entA)))]++ww [(0,some (.own 4 139 (es.map entA)))],1⟩:=by
 refine yx [.tp 0,atFn id] [(0,some (.own 4 139 (es.map entA)))] 1 (.i (qae id 0 es)) [(0,some (.own 4 139 (es.map entA)))] 1 Tryz.func127 rfl rfl rfl rfl fun S F ρ=>?_
 have hml:(es.map entA).length=es.length:=by simp
 apply qe []
 repeat' (first|apply And.intro|(intro h;try exact cDd)|exact cSd|apply qc []|refine exr ?_|refine qi ?_)
 refine jf (X:=Nat) (fun k=>⟨[(0,.tp 0),(1,atFn id),(7,.i es.length),(8,.i k)],[(0,some (.own 4 139 (es.map entA)))],1⟩) (fun k=>k≤es.length∧qae id k (es.drop k)=qae id 0 es) (fun k=>es.length - k) 0 ⟨by omega,by simp⟩ ?_ ?_
 ·skip
  repeat' (first|apply And.intro|(intro h;try exact cDd)|exact cSd|apply qc []|refine exr ?_|refine qi ?_)
  all_goals (simp;done)
 ·rintro k ⟨hk,hrun⟩
  by_cases hkn:k<es.length
  ·have hx:es[k]? = some es[k]:=List.getElem?_eq_getElem hkn
   have hxm:(es.map entA)[k]? = some (entA es[k]):=by rw [List.getElem?_map,hx];rfl
   rw [List.drop_eq_getElem_cons hkn,qae] at hrun
   generalize es[k]=e at hx hxm hrun
   have h1:=fun st=>zim e id st
   by_cases hid:e.id=id
   ·rw [if_pos hid] at hrun
    rw [decide_eq_true hid] at h1
    rw [← hrun]
    apply qe []
    repeat' (first|apply And.intro|(intro h;try exact cDd)|(refine qg3 (i:=k) rfl rfl rfl rfl rfl rfl (by omega) ?_)|(refine qjq (i:=k) (j:=0) rfl rfl rfl rfl hxm rfl rfl ?_)|exact⟨Tryz.call128⟩|refine cpe h1 ?_|exact cSd|apply qc []|refine exr ?_|refine qi ?_)
   ·rw [if_neg hid] at hrun
    rw [decide_eq_false hid] at h1
    apply qe []
    repeat' (first|apply And.intro|(intro h;try exact cDd)|(refine qg3 (i:=k) rfl rfl rfl rfl rfl rfl (by omega) ?_)|(refine qjq (i:=k) (j:=0) rfl rfl rfl rfl hxm rfl rfl ?_)|exact⟨Tryz.call128⟩|refine cpe h1 ?_|(refine Exists.intro (k+1) ⟨⟨by omega,hrun⟩,by omega,?_⟩)|exact cSd|apply qc []|refine exr ?_|refine qi ?_)
  ·have hkn:k=es.length:=by omega
   subst hkn
   rw [List.drop_length,qae] at hrun
   rw [← hrun]
   apply qe []
   repeat' (first|apply And.intro|(intro h;try exact cDd)|exact cSd|apply qc []|refine exr ?_|refine qi ?_)
theorem qux (l:zg) (id:Int) (hl:l.ents.length<1000000):vn E 69 [.bx 0 0,.i id] 2 (hpF (lstH 1 l)) ⟨.i (atF l id),wi (lstH 1 l),lstH 1 l++ww (lstH 1 l),2⟩:=by
 refine yx [.bx 0 0,.i id] (lstH 1 l) 2 (.i (atF l id)) (lstH 1 l) 2 Tryz.func69 rfl rfl rfl rfl fun S F ρ=>?_
 unfold atF
 have h1:=zc0 l.ents id hl
 by_cases h:id<1
 ·rw [if_pos h]
  apply qe []
  repeat' (first|apply And.intro|(intro h;try exact cDd)|exact cSd|apply qc []|refine exr ?_|refine qi ?_)
 ·rw [if_neg h]
  apply qe []
  repeat' (first|apply And.intro|(intro h;try exact cDd)|exact⟨Tryz.call127⟩|(refine j8 h1 ?_)|exact cSd|apply qc []|refine exr ?_|refine qi ?_)
end Go.Proofs.YtmoklbacdkmkaaaGreatDoor
namespace Go.Pl
open Go Go.Proofs
def qvp (fs:List Fld):Bytes:=if j7 fs = .no then zq fs else []
def qda (fs:List Fld):zv:=if j7 fs = .no then⟨3,zq fs,fs⟩ else⟨0,[],[]⟩
def vz (its:List zv):Bytes:=its.flatMap fun x=>x.raw
theorem qb1 (a b:List zv):vz (a++b)=vz a++vz b:=by simp [vz]
theorem qcy (x:zv):vz [x]=x.raw:=by simp [vz]
def xv (prev:Bool):List zv→List zv
 | []=>[]
 |x::r=>(if prev=true∧x.kind≠1 then [⟨1,[10],[]⟩,x] else [x])++xv (decide (x.kind≠1)) r
def qbn (its:List zv):List zv:=xv false its
def vf (l:zg):List zv:=l.ents.map fun e=>e.x
def qiw (l:zg):Bytes:=vz (qbn (vf l))
end Go.Pl
namespace Go.Proofs.YtmoklbacdkmkaaaGreatDoor
open Go Go.Av Go.RowKit Go.Proofs Go.Pl
theorem zag (fs:List Fld) (st:List AObj) (hK:KeyB fs) (hl:fs.length<9223372036854775808):qp E 227 [jw fs] st fun r st'=>r = .tu [Sv (qvp fs),errA (j7 fs)]∧st'=st:=by
 refine zl [.a (jw fs)] (kj (qs _) (vl _)) Tryz.func227 rfl rfl (fun _=>rfl) rfl fun S0=>?_
 unfold qvp
 cases he:j7 fs with
 |no=>
  rw [if_pos rfl]
  have h1:=fun st=>qm2 fs st _ he hK hl
  obtain⟨_,h3,h4⟩:=qgh he
  have h2:=fun st=>qs5 fs st h3 h4
  apply qe []
  repeat' (first|apply And.intro|(intro h;try exact cDd)|exact⟨Tryz.call185⟩|refine cpe h1 ?_|exact⟨Tryz.call135⟩|refine cpe h2 ?_|exact cSd|apply qc []|refine exr ?_|refine qi ?_)
 |num n=>
  rw [if_neg (by simp)]
  have h1:=fun st=>qm2 fs st _ he hK hl
  apply qe []
  repeat' (first|apply And.intro|(intro h;try exact cDd)|exact⟨Tryz.call185⟩|refine cpe h1 ?_|exact cSd|apply qc []|refine exr ?_|refine qi ?_)
 |at' a n=>
  rw [if_neg (by simp)]
  have h1:=fun st=>qm2 fs st _ he hK hl
  apply qe []
  repeat' (first|apply And.intro|(intro h;try exact cDd)|exact⟨Tryz.call185⟩|refine cpe h1 ?_|exact cSd|apply qc []|refine exr ?_|refine qi ?_)
theorem q5f (fs:List Fld) (st:List AObj) (hK:KeyB fs) (hl:fs.length<1000000):qp E 186 [jw fs] st fun r st'=>r = .tu [z6 (qda fs),errA (j7 fs)]∧st'=st:=by
 refine zl [.a (jw fs)] (kj (yz (qhh _)) (vl _)) Tryz.func186 rfl rfl (fun _=>rfl) rfl fun S0=>?_
 have h1:=fun st=>zag fs st hK (by omega)
 have h2:=fun st=>qmf fs st hl
 unfold qvp at h1
 unfold qda
 cases he:j7 fs with
 |no=>
  rw [he,if_pos rfl] at h1
  rw [if_pos rfl]
  apply qe []
  repeat' (first|apply And.intro|(intro h;try exact cDd)|exact⟨Tryz.call227⟩|refine cpe h1 ?_|exact⟨Tryz.call80⟩|refine cpe h2 ?_|exact cSd|apply qc []|refine exr ?_|refine qi ?_)
 |num n=>
  rw [he,if_neg (by simp)] at h1
  rw [if_neg (by simp)]
  apply qe []
  repeat' (first|apply And.intro|(intro h;try exact cDd)|exact⟨Tryz.call227⟩|refine cpe h1 ?_|exact cSd|apply qc []|refine exr ?_|refine qi ?_)
 |at' a n=>
  rw [he,if_neg (by simp)] at h1
  rw [if_neg (by simp)]
  apply qe []
  repeat' (first|apply And.intro|(intro h;try exact cDd)|exact⟨Tryz.call227⟩|refine cpe h1 ?_|exact cSd|apply qc []|refine exr ?_|refine qi ?_)
theorem zci (x:zv) (st:List AObj) (hl:x.fields.length<1000000):qp E 158 [z6 x] st fun r st'=>r=z6 x∧st'=st:=by
 refine zl [.a (z6 x)] (yz (qhh _)) Tryz.func158 rfl rfl (fun _=>rfl) rfl fun S0=>?_
 have h2:=fun st=>qmf x.fields st hl
 apply qe [1]
 repeat' (first|apply And.intro|(intro h;try exact cDd)|exact⟨Tryz.call80⟩|refine cpe h2 ?_|exact cSd|apply qc [1]|refine exr ?_|refine qi ?_)
structure ItsB (its:List zv):Prop where
 len:its.length≤1000000
 fld:∀ x∈its,x.fields.length<1000000
theorem qnw (prev:Bool):∀ its:List zv,(xv prev its).length≤2 * its.length
 | []=>by simp [xv]
 |x::r=>by
  have ih:=qnw (decide (x.kind≠1)) r
  unfold xv
  split <;> simp only [List.length_append,List.length_cons,List.length_nil] <;> omega
theorem zdh (its:List zv) (st:List AObj) (hB:ItsB its):qp E 93 [js its] st fun r st'=>r=js (qbn its)∧st'=st:=by
 refine zl [.a (js its)] (qaj _) Tryz.func93 rfl rfl (fun _=>rfl) rfl fun S0=>?_
 have hln:=hB.len
 apply qe []
 repeat' (first|apply And.intro|(intro h;try exact cDd)|exact cSd|apply qc []|refine exr ?_|refine qi ?_)
 refine jf (X:=Nat×List zv) (fun (k,out)=>⟨[(0,.a (js its)),(3,.tp 0),(6,.a (js its)),(7,.i its.length),(8,.i k)],[(0,some (.tip 3 137 (out.map z6)))],1⟩)
  (fun (k,out)=>k≤its.length∧out.length≤2 * k∧∃ prev,(prev=true↔∃ y,0<k∧its[k - 1]? = some y∧y.kind≠1)∧out++xv prev (its.drop k)=qbn its) (fun (k,out)=>its.length - k) (0,[]) ⟨by omega,by simp,false,by simp,rfl⟩ ?_ ?_
 ·skip
  repeat' (first|apply And.intro|(intro h;try exact cDd)|exact cSd|apply qc []|refine exr ?_|refine qi ?_)
  all_goals (simp;done)
 ·rintro⟨k,out⟩ ⟨hk,hol,prev,hpv,hrun⟩
  by_cases hkn:k<its.length
  ·have hx:its[k]? = some its[k]:=List.getElem?_eq_getElem hkn
   have hxm:(its.map z6)[k]? = some (z6 its[k]):=by rw [List.getElem?_map,hx];rfl
   have hxf:=hB.fld its[k] (List.getElem_mem hkn)
   rw [List.drop_eq_getElem_cons hkn,xv] at hrun
   generalize its[k]=x at hx hxm hrun hxf
   have hcp:=fun st=>zci x st hxf
   have hml:(out.map z6).length=out.length:=by simp
   have hnext:(decide (x.kind≠1)=true↔∃ y,0<k+1∧its[k+1 - 1]? = some y∧y.kind≠1):=by
    rw [decide_eq_true_iff,Nat.add_sub_cancel,hx]
    constructor
    ·intro h
     exact⟨x,by omega,rfl,h⟩
    ·rintro⟨y,_,h1,h2⟩
     simp only [Option.some.injEq] at h1
     rw [h1]
     exact h2
   by_cases hk0:k=0
   ·have hp:¬ (prev=true):=fun h=>by
     obtain⟨_,h,_⟩:=hpv.1 h
     omega
    rw [if_neg (fun h=>hp h.1)] at hrun
    apply qe []
    repeat' (first|apply And.intro|(intro h;try exact cDd)|(refine Exists.intro (k) ⟨by omega,_,hxm,?_⟩)|exact⟨Tryz.call158⟩|refine cpe hcp ?_|(refine Exists.intro (k+1,out++[x]) ⟨⟨by omega,by simp;omega,_,hnext,by rw [← hrun];simp⟩,by simp only;omega,?_⟩)|exact cSd|apply qc []|refine exr ?_|refine qi ?_)
    all_goals first|(simp [SV.evs,SV.ev];done)|(simp [SV.evs];omega)
   ·obtain⟨y,hy⟩:∃ y,its[k - 1]? = some y:=⟨_,List.getElem?_eq_getElem (by omega:k - 1<its.length)⟩
    have hym:(its.map z6)[k - 1]? = some (z6 y):=by rw [List.getElem?_map,hy];rfl
    have hpy:(prev=true↔y.kind≠1):=by
     rw [hpv]
     constructor
     ·rintro⟨z,_,h1,h2⟩
      rw [hy] at h1
      simp only [Option.some.injEq] at h1
      rw [h1]
      exact h2
     ·exact fun h=>⟨y,by omega,hy,h⟩
    by_cases hb:x.kind≠1∧y.kind≠1
    ·rw [if_pos ⟨hpy.2 hb.2,hb.1⟩] at hrun
     obtain⟨hb1,hb2⟩:=hb
     apply qe []
     repeat' (first|apply And.intro|(intro h;try exact cDd)|(refine Exists.intro (k) ⟨by omega,_,hxm,?_⟩)|(refine Exists.intro (k - 1) ⟨by omega,_,hym,?_⟩)|exact⟨Tryz.call158⟩|refine cpe hcp ?_|(refine Exists.intro (k+1,out++[⟨1,[10],[]⟩,x]) ⟨⟨by omega,by simp;omega,_,hnext,by rw [← hrun];simp⟩,by simp only;omega,?_⟩)|exact cSd|apply qc []|refine exr ?_|refine qi ?_)
     all_goals first|(simp [SV.evs,SV.ev];done)|(simp [SV.evs];omega)
    ·rw [if_neg (fun h=>hb ⟨h.2,hpy.1 h.1⟩)] at hrun
     apply qe []
     repeat' (first|apply And.intro|(intro h;try exact cDd)|(refine Exists.intro (k) ⟨by omega,_,hxm,?_⟩)|(refine Exists.intro (k - 1) ⟨by omega,_,hym,?_⟩)|exact⟨Tryz.call158⟩|refine cpe hcp ?_|(refine Exists.intro (k+1,out++[x]) ⟨⟨by omega,by simp;omega,_,hnext,by rw [← hrun];simp⟩,by simp only;omega,?_⟩)|exact absurd ⟨by assumption,by assumption⟩ hb|exact cSd|apply qc []|refine exr ?_|refine qi ?_)
     all_goals first|(simp [SV.evs,SV.ev];done)|(simp [SV.evs];omega)
  ·have hkn:k=its.length:=by omega
   subst hkn
   rw [List.drop_length,xv,List.append_nil] at hrun
   rw [← hrun]
   apply qe []
   repeat' (first|apply And.intro|(intro h;try exact cDd)|exact cSd|apply qc []|refine exr ?_|refine qi ?_)
theorem zgx (its:List zv) (st:List AObj) (hl:its.length≤4000000) (hr:(vz its).length≤1000000000000):qp E 92 [js its] st fun r st'=>r=Sv (vz its)∧st'=st:=by
 refine qx (qs _) (qq Tryz.func92 rfl (Nat.le_of_ble_eq_true rfl) ?_)
 have hml:(its.map z6).length=its.length:=by simp
 repeat' (first|(apply qha;exact rfl)|apply qn|apply qw|apply qf|apply qh|apply qj|apply qg|(apply zw;(iterate 4 exact rfl)))
 refine ye its (fun pre s=>∃ q,(q = .v (.pointer none)∨q = .bx (st.length+0) 0 0)∧StE [(3,.bx (st.length+0) 0 0),(6,js its),(7,Iv its.length),(8,Iv pre.length)] st [bldO 0 q (vz pre) (st.length+1),.tip (vz pre).length 1 5] s) ⟨_,.inl rfl,qbj ⟨rfl,rfl,congrArg (fun n:Nat=>Iv (n:Int)) hml,rfl,trivial⟩ rfl⟩ ?_ ?_
 ·rintro _ ⟨q,hq,t,ext,rfl⟩
  repeat' (first|apply qn|apply qf|apply qh|apply qg|(apply qr;(iterate 3 exact rfl))|(apply qd;exact rfl;apply vc;exact cAo)|apply z4|apply qt|(refine qk Tryz.call139 (qhc st _ _ _ _ 0 1 0 _ _ rfl rfl rfl) ?_))
  exact qo rfl (q5 rfl) ⟨rfl,x2 _ _ _ _⟩
 ·rintro pre x rest _ hre ⟨q,hq,t,ext,rfl⟩
  have hlen:its.length=pre.length+(rest.length+1):=by rw [hre];simp
  have hget:(its.map z6)[pre.length]? = some (z6 x):=by rw [hre];simp
  have hrl:(vz pre).length+x.raw.length≤1000000000000:=by
   have e:x::rest=[x]++rest:=rfl
   rw [hre,qb1,e,qb1,qcy] at hr
   simp only [List.length_append] at hr
   omega
  repeat' (first|apply qn|apply qw|apply qf|apply qh|(apply qr;(iterate 3 exact rfl))|(apply qd;exact rfl;apply ku;exact cAo)|(apply jm;exact rfl;exact rfl)|(apply zj;(iterate 3 exact rfl))|(apply zy;(iterate 3 exact rfl))|(apply jl;(iterate 5 exact rfl))|(apply zz;(iterate 11 exact rfl))|apply qv|(apply z8 (n:=pre.length);(iterate 5 exact rfl);exact hget))
  refine qk Tryz.call136 (qie st _ _ _ _ 0 1 0 _ _ _ rfl rfl ?_ ?_ rfl) ?_;(exact hq);(omega)
  repeat' (first|apply qf|apply qh|apply qj|(apply zi;exact rfl;exact rfl;exact q8 (by omega) (by omega)))
  refine⟨_,.inr rfl,xp ⟨rfl,rfl,rfl,?_,trivial⟩ ?_⟩
  ·rw [yt pre x];rfl
  ·rw [qb1,qcy];rfl
theorem zdy (its:List zv) (st:List AObj) (hB:ItsB its) (hr:(vz (qbn its)).length≤1000000000000):qp E 52 [js its] st fun r st'=>r=Sv (vz (qbn its))∧st'=st:=by
 refine zl [.a (js its)] (qs _) Tryz.func52 rfl rfl (fun _=>rfl) rfl fun S0=>?_
 have h1:=fun st=>zdh its st hB
 have hal:=qnw false its
 have hln:=hB.len
 have h2:=fun st=>zgx (qbn its) st (by unfold qbn;omega) hr
 apply qe []
 repeat' (first|apply And.intro|(intro h;try exact cDd)|exact⟨Tryz.call93⟩|refine cpe h1 ?_|exact⟨Tryz.call92⟩|refine cpe h2 ?_|exact cSd|apply qc []|refine exr ?_|refine qi ?_)
theorem zc7 (l:zg) (st:List AObj) (hB:ItsB (vf l)):qp E 53 [y5 l] st fun r st'=>r=js (vf l)∧st'=st:=by
 refine zl [.a (y5 l)] (qaj _) Tryz.func53 rfl rfl (fun _=>rfl) rfl fun S0=>?_
 have hln:=hB.len
 have hil:(vf l).length=l.ents.length:=by simp [vf]
 apply qe []
 repeat' (first|apply And.intro|(intro h;try exact cDd)|exact cSd|apply qc []|refine exr ?_|refine qi ?_)
 refine jf (X:=Nat) (fun k=>⟨[(3,.tp 0),(12,.a (.sl 4 (l.ents.map entA) none)),(13,.i l.ents.length),(14,.i k)],[(0,some (.tip 3 137 (((vf l).take k).map z6)))],1⟩)
  (fun k=>k≤l.ents.length) (fun k=>l.ents.length - k) 0 (by omega) ?_ ?_
 ·skip
  repeat' (first|apply And.intro|(intro h;try exact cDd)|exact cSd|apply qc []|refine exr ?_|refine qi ?_)
  all_goals (simp;done)
 ·rintro k hk
  by_cases hkn:k<l.ents.length
  ·have hx:l.ents[k]? = some l.ents[k]:=List.getElem?_eq_getElem hkn
   have hxm:(l.ents.map entA)[k]? = some (entA l.ents[k]):=by rw [List.getElem?_map,hx];rfl
   have hxi:(vf l)[k]? = some l.ents[k].x:=by unfold vf;rw [List.getElem?_map,hx];rfl
   have hxf:=hB.fld l.ents[k].x (List.mem_of_getElem? hxi)
   have htk:(vf l).take (k+1)=(vf l).take k++[l.ents[k].x]:=by rw [List.take_add_one,hxi];rfl
   have htl:(((vf l).take k).map z6).length≤k:=by simp;omega
   generalize l.ents[k]=e at hx hxm hxi hxf htk
   have hcp:=fun st=>qmf e.x.fields st hxf
   apply qe []
   repeat' (first|apply And.intro|(intro h;try exact cDd)|(refine Exists.intro (k) ⟨by omega,_,hxm,?_⟩)|exact⟨Tryz.call80⟩|refine cpe hcp ?_|(refine Exists.intro (k+1) ⟨by omega,by omega,?_⟩)|exact cSd|apply qc []|refine exr ?_|refine qi ?_)
   all_goals first|(rw [htk];simp;done)|(simp [SV.evs];omega)
  ·have hkn:k=l.ents.length:=by omega
   subst hkn
   have e:(vf l).take l.ents.length=vf l:=List.take_of_length_le (by omega)
   rw [e]
   apply qe []
   repeat' (first|apply And.intro|(intro h;try exact cDd)|exact cSd|apply qc []|refine exr ?_|refine qi ?_)
theorem zf6 (l:zg) (st:List AObj) (hB:ItsB (vf l)) (hr:(qiw l).length≤1000000000000):qp E 16 [y5 l] st fun r st'=>r=Sv (qiw l)∧st'=st:=by
 refine zl [.a (y5 l)] (qs _) Tryz.func16 rfl rfl (fun _=>rfl) rfl fun S0=>?_
 have h1:=fun st=>zc7 l st hB
 have h2:=fun st=>zdy (vf l) st hB hr
 apply qe []
 repeat' (first|apply And.intro|(intro h;try exact cDd)|exact⟨Tryz.call53⟩|refine cpe h1 ?_|exact⟨Tryz.call52⟩|refine cpe h2 ?_|exact cSd|apply qc []|refine exr ?_|refine qi ?_)
theorem qjf (es:List EntV):∀ x∈es.map entA,x.cells.length=4:=fun x hx=>by
 obtain⟨e,_,rfl⟩:=List.mem_map.1 hx
 rfl
theorem qdr (es:List EntV):(flat (es.map entA)).length=es.length * 4:=by
 rw [zt (qjf es),List.length_map]
theorem qht (a b:List EntV):flat ((a++b).map entA)=flat (a.map entA)++flat (b.map entA):=by rw [List.map_append,x4]
theorem qel (A B xs:List AV) {off:Nat} (h:A.length=off):zx (A++B) off xs=A++xs++B.drop xs.length:=by
 unfold zx
 rw [← h,List.take_left,List.drop_append,List.drop_eq_nil_of_le (by omega)]
 simp
theorem qiu {cs xs:List AV} {off:Nat} (h:off+xs.length≤cs.length):(zx cs off xs).length=cs.length:=by
 unfold zx
 simp
 omega
theorem zib (es:List EntV) (i:Nat) (hi:i<es.length) (hl:es.length<1000000) (st:List AObj) (c:AV) (hc:OwnS st 4 139 (es.map entA) c):qp E 187 [c,Iv i,Iv ((i:Int)+1)] st fun r st'=>OwnR 4 139 ((es.take i++es.drop (i+1)).map entA) st c r st':=by
 have hml:(es.map entA).length=es.length:=by simp
 rcases hc with⟨h0,_⟩ | ⟨o,ver,cap,pad,rfl,e2,e3,e4,e5,e6⟩
 ·rw [h0] at hml
  simp at hml
  omega
 rw [hml] at e5 ⊢
 have hlt:=lt_of_getElem? e2
 have hfl:=qdr es
 have hsplit:flat (es.map entA)++pad=flat ((es.take i).map entA)++(flat ((es.drop i).map entA)++pad):=by
  rw [← List.append_assoc,← qht,List.take_append_drop]
 have ht4:(flat ((es.take i).map entA)).length=i * 4:=by rw [qdr,List.length_take,Nat.min_eq_left (by omega)]
 have hd4:(flat ((es.drop (i+1)).map entA)).length=(es.length - (i+1)) * 4:=by rw [qdr,List.length_drop]
 obtain⟨B1,hB1⟩:∃ B1,(flat ((es.drop i).map entA)++pad).drop (flat ((es.drop (i+1)).map entA)).length=B1:=⟨_,rfl⟩
 have hsp:zx (flat (es.map entA)++pad) (i * 4) (flat ((es.drop (i+1)).map entA))=flat ((es.take i++es.drop (i+1)).map entA)++B1:=by
  rw [hsplit,qel _ _ _ ht4,qht,hB1]
 have hsl:(flat ((es.take i++es.drop (i+1)).map entA)++B1).length=(cap+1) * 4:=by
  rw [← hsp,qiu (by rw [e3,hd4];omega),e3]
 have hel:(es.take i++es.drop (i+1)).length=es.length - 1:=by simp;omega
 -- what is appended
 obtain⟨q,hq⟩:∃ q,(if cap+1=i+1 then 0 else 0+(i+1) * 4)=q:=⟨_,rfl⟩
 have hqz:((flat (es.map entA)++pad).drop q).take ((es.length - (i+1)) * 4)=flat ((es.drop (i+1)).map entA)∧q+(es.length - (i+1)) * 4≤(flat (es.map entA)++pad).length:=by
  rw [e3]
  by_cases hci:cap+1=i+1
  ·have:es.length - (i+1)=0:=by omega
   rw [if_pos hci] at hq
   rw [this,← hq,List.drop_eq_nil_of_le (by omega:es.length≤i+1)]
   exact⟨by simp [flat],by omega⟩
  ·rw [if_neg hci] at hq
   rw [← hq]
   refine⟨?_,by omega⟩
   have e:flat (es.map entA)++pad=flat ((es.take (i+1)).map entA)++(flat ((es.drop (i+1)).map entA)++pad):=by
    rw [← List.append_assoc,← qht,List.take_append_drop]
   have e':(flat ((es.take (i+1)).map entA)).length=0+(i+1) * 4:=by rw [qdr,List.length_take,Nat.min_eq_left (by omega)];omega
   rw [e,← e',List.drop_left,← hd4,List.take_left]
 have hsrc:SrcA st 4 (.os o ver q (es.length - (i+1)) (cap+1 - (i+1))) (es.length - (i+1)) (es.length - (i+1)) (flat ((es.drop (i+1)).map entA)):=by
  have:=SrcA.os (st:=st) (sz:=4) o ver q (es.length - (i+1)) (cap+1 - (i+1)) (es.length - (i+1)) _ _ e2 hqz.2 (by rw [hqz.1];exact qcz fun _=>rfl)
  rw [hqz.1] at this
  exact this
 refine qq Tryz.func187 rfl (Nat.le_of_ble_eq_true rfl) ?_
 rw [List.append_nil]
 repeat' (first|(refine z7 (sz:=4) (i:=i) (j:=i+1) (m:=es.length) rfl rfl rfl ?_ ?_ ?_ ?_ ?_ ?_ ?_;exact⟨_,rfl⟩;exact⟨_,rfl⟩;exact⟨_,rfl⟩;omega;omega;omega)|apply qn|apply qf|apply qh|apply qj|apply qg|(apply qr;(iterate 3 exact rfl))|(apply qd;exact rfl;apply vc;exact cAo)|(apply zw;(iterate 4 exact rfl))|apply qv)
 refine quy (fun s=>StA [(0,.os o ver 0 (i+(es.length - (i+1))) (cap+1)),(7,Iv es.length)] (st.set o (.cells ver 139 (flat ((es.take i++es.drop (i+1)).map entA)++B1))) [] s) ?_ ?_
 ·refine qka rfl rfl ?_
  (apply yw 0;exact rfl;kernel_rfl;kernel_rfl;kernel_rfl;exact rfl;exact qaq)
  (apply yw 1;exact rfl;kernel_rfl;kernel_rfl;kernel_rfl;exact rfl;exact qaq)
  (apply yw 3;exact rfl;kernel_rfl;kernel_rfl;kernel_rfl;exact rfl;exact qaq)
  (apply yw 4;exact rfl;kernel_rfl;kernel_rfl;kernel_rfl;exact rfl;exact qaq)
  refine w8 [2,5] (by kernel_rfl) rfl ⟨⟨_,rfl,?_⟩,⟨_,rfl,?_⟩,trivial⟩
  ·(refine z7 (sz:=4) (i:=0) (j:=i) (m:=cap+1) rfl rfl rfl ?_ ?_ ?_ ?_ ?_ ?_ ?_;exact rfl;exact⟨_,rfl⟩;exact rfl;omega;omega;omega)
   apply qh
   refine w8 [5] (by kernel_rfl) rfl ⟨⟨_,rfl,?_⟩,trivial⟩
   (refine z7 (sz:=4) (i:=i+1) (j:=es.length) (m:=cap+1) rfl rfl rfl ?_ ?_ ?_ ?_ ?_ ?_ ?_;exact⟨_,rfl⟩;exact⟨rfl,rfl⟩;exact rfl;omega;omega;omega;rw [hq])
   apply qh
   refine w8 [6] (by kernel_rfl) rfl ⟨⟨_,rfl,?_⟩,trivial⟩
   (refine qng (bytes:=56) (o:=o) (ver:=ver) (n:=i) (cap:=cap+1) (m:=es.length - (i+1)) (cs:=flat (es.map entA)++pad) rfl rfl e2 hsrc rfl rfl ⟨⟨_,_,rfl,rfl,rfl,rfl,rfl⟩⟩ (by omega) e3 ?_;rw [hsp])
   apply qh
   (apply yw 7;exact rfl;kernel_rfl;kernel_rfl;kernel_rfl;exact rfl;exact qv7)
   refine qdc (by kernel_rfl) ?_
   exact jb ⟨rfl,rfl,trivial⟩
  ·(refine z7 (sz:=4) (i:=i+1) (j:=es.length) (m:=cap+1) rfl rfl rfl ?_ ?_ ?_ ?_ ?_ ?_ ?_;exact⟨_,rfl⟩;exact⟨rfl,rfl⟩;exact rfl;omega;omega;omega;rw [hq])
   apply qh
   refine w8 [2] (by kernel_rfl) rfl ⟨⟨_,rfl,?_⟩,trivial⟩
   (refine z7 (sz:=4) (i:=0) (j:=i) (m:=cap+1) rfl rfl rfl ?_ ?_ ?_ ?_ ?_ ?_ ?_;exact rfl;exact⟨_,rfl⟩;exact rfl;omega;omega;omega)
   apply qh
   refine w8 [6] (by kernel_rfl) rfl ⟨⟨_,rfl,?_⟩,trivial⟩
   (refine qng (bytes:=56) (o:=o) (ver:=ver) (n:=i) (cap:=cap+1) (m:=es.length - (i+1)) (cs:=flat (es.map entA)++pad) rfl rfl e2 hsrc rfl rfl ⟨⟨_,_,rfl,rfl,rfl,rfl,rfl⟩⟩ (by omega) e3 ?_;rw [hsp])
   apply qh
   (apply yw 7;exact rfl;kernel_rfl;kernel_rfl;kernel_rfl;exact rfl;exact qv7)
   refine qdc (by kernel_rfl) ?_
   exact jb ⟨rfl,rfl,trivial⟩
 ·rintro _ ⟨t,rfl⟩
  have hob:(st.set o (AObj.cells ver 139 (flat ((es.take i++es.drop (i+1)).map entA)++B1)))[o]? = some (.cells ver 139 (flat ((es.take i++es.drop (i+1)).map entA)++B1)):=kq e2
  have hqq:(if cap+1=i+(es.length - (i+1)) then 0 else 0+(i+(es.length - (i+1))) * 4)=(es.length - 1) * 4:=by
   rw [if_neg (by omega)]
   omega
  have hfe:(flat ((es.take i++es.drop (i+1)).map entA)).length=(es.length - 1) * 4:=by rw [qdr,hel]
  repeat' (first|(refine z7 (sz:=4) (i:=i+(es.length - (i+1))) (j:=es.length) (m:=cap+1) rfl rfl rfl ?_ ?_ ?_ ?_ ?_ ?_ ?_;exact⟨_,rfl⟩;exact⟨_,rfl⟩;exact rfl;omega;omega;omega;rw [hqq])|(refine qy5 (sz:=4) (bytes:=56) rfl hob rfl ⟨⟨_,_,rfl,rfl,rfl,rfl,rfl⟩⟩ rfl (by rw [hsl];omega) fun zs hz=>?_)|apply qn|apply qf|apply qh|apply qj|apply qg|(apply zw;(iterate 4 exact rfl))|apply qt)
  refine qo rfl (q5 rfl) ?_
  show OwnR 4 139 _ st _ (.os o ver 0 (i+(es.length - (i+1))) (cap+1)) ((st.set o _).set o (.cells ver 139 (zx (flat ((es.take i++es.drop (i+1)).map entA)++B1) ((es.length - 1) * 4) zs)))
  rw [List.set_set,qel _ _ _ hfe,List.append_assoc]
  have hB1l:(es.length - 1) * 4+B1.length=(cap+1) * 4:=by rw [← hfe,← List.length_append];exact hsl
  have hzl:zs.length=4:=by rw [hz];omega
  refine⟨.inr ⟨o,ver,cap,zs++B1.drop zs.length,?_,kq e2,?_,qjf _,?_,e6⟩,by simp,fun j hj hne=>List.getElem?_set_ne fun e=>hne (by rw [e];rfl),fun o' ho'=>.inr ho'⟩
  ·rw [List.length_map,hel]
   congr 1
   omega
  ·rw [List.length_append,List.length_append,List.length_drop,hfe,hzl]
   omega
  ·rw [List.length_map,hel]
   omega
theorem zgt (e:EntV) (st:List AObj) (c:AV) (hnr:qen c):qp E 188 [c,Iv 0,.sl 4 [entA e] none] st fun r st'=>OwnR 4 139 [entA e] st c r st':=by
 refine qq Tryz.func188 rfl (Nat.le_of_ble_eq_true rfl) ?_
 rw [List.append_nil]
 repeat' (first|(apply zw (n:=1);(iterate 4 exact rfl))|(refine qza (sz:=4) rfl hnr.val rfl rfl ?_ ?_;exact⟨_,rfl⟩)|(apply zw;exact rfl;exact hnr.len;exact rfl;exact rfl)|(refine qfa (sz:=4) (ys:=[entA e]) (bytes:=56) hnr.val (fun _ _ h=>h) rfl rfl ⟨⟨_,_,rfl,rfl,rfl,rfl,rfl⟩⟩ rfl (by simp) (by simp [maxLen]) (by simp) fun cap pad q1 q2 q3 q4=>?_)|apply qn|apply qf|apply qh|apply qj|apply qg|(apply qr;(iterate 3 exact rfl))|(apply qd;exact rfl;apply ku;exact cAo)|(apply qd;exact rfl;apply vc;exact cAo)|apply qv|apply qt)
 refine qo rfl (q5 rfl) ?_
 show OwnR 4 139 _ st c (.os st.length 0 0 _ (cap+1)) (st++[_])
 refine⟨.inr ⟨_,0,cap,pad,rfl,xm,q1,q2,q3,q4⟩,qg2,fun j hj _=>List.getElem?_append_left hj,fun o ho=>?_⟩
 simp only [zo,Option.some.injEq] at ho
 left
 omega
theorem zgu (es:List EntV) (e:EntV) (hl:es.length<1000000) (st:List AObj) (o ver cap:Nat) (pad:List AV) (e2:st[o]? = some (.cells ver 139 (flat (es.map entA)++pad))) (e3:(flat (es.map entA)++pad).length=(cap+1) * 4) (e5:es.length≤cap+1) (e6:cap+1≤maxLen) :
  qp E 188 [.os o ver 0 es.length (cap+1),Iv es.length,.sl 4 [entA e] none] st fun r st'=>OwnR 4 139 (es.map entA++[entA e]) st (.os o ver 0 es.length (cap+1)) r st':=by
 have hml:(es.map entA).length=es.length:=by simp
 have hlt:=lt_of_getElem? e2
 have hV0:Vec 4 139 o (es.map entA) (.os o ver 0 es.length (cap+1)) (.cells ver 139 (flat (es.map entA)++pad)):=by
  have:=Vec.os (o:=o) (T:=139) (xs:=es.map entA) ver (cap+1) pad e3 (qjf _) (by omega) e6
  rw [hml] at this
  exact this
 refine qq Tryz.func188 rfl (Nat.le_of_ble_eq_true rfl) ?_
 rw [List.append_nil]
 repeat' (first|(apply zw (n:=1);(iterate 4 exact rfl))|(refine z7 (sz:=4) (i:=es.length) (j:=es.length) (m:=cap+1) rfl rfl rfl ?_ ?_ ?_ ?_ ?_ ?_ ?_;exact⟨_,rfl⟩;exact⟨rfl,rfl⟩;exact rfl;omega;omega;omega)|(refine qnh (sz:=4) (bytes:=56) (o:=o) (xs:=es.map entA) (ys:=[entA e]) rfl (fun _ _ h=>h) hV0 e2 rfl rfl ⟨⟨_,_,rfl,rfl,rfl,rfl,rfl⟩⟩ rfl (by simp [maxLen];omega) (by simp;omega) fun a' ob' hV=>?_)|apply qn|apply qf|apply qh|apply qj|apply qg|(apply qr;(iterate 3 exact rfl))|(apply qd;exact rfl;apply ku;exact cAo)|(apply qd;exact rfl;apply vc;exact cAo)|(apply zw;(iterate 4 exact rfl))|apply qv|apply qt)
 rcases q2p hV with⟨q,_,_⟩ | ⟨ver',cap',pad',rfl,rfl,q1,q2,q3,q4⟩
 ·simp at q
 ·obtain⟨cap',rfl⟩:∃ c,cap'=c+1:=⟨cap' - 1,by simp at q3;omega⟩
  refine qo rfl (q5 rfl) ?_
  show OwnR 4 139 _ st _ (.os o ver' 0 _ (cap'+1)) (st.set o _)
  exact⟨.inr ⟨o,ver',cap',pad',rfl,kq e2,q1,q2,q3,q4⟩,by simp,fun j hj hne=>List.getElem?_set_ne fun e=>hne (by rw [e];rfl),fun o' ho'=>.inr ho'⟩
theorem q1j (w:World) (a b:Addr) (la ca lb cb:Nat) (tA tB:TypeId) (kA kB:Nat) (h1:a.block≠b.block) (h2:w.shape? a.block=some (tA,kA)) (h3:w.shape? b.block=some (tB,kB)) (h4:kA≠0) (h5:w.frozen? b=false) (h6:w.frozen? { block:=b.block,off:=kB }=false) :
  (callFunc 228 #[.slice (some a) la ca,.slice (some b) lb cb]).run E.P w = .ok (.value (.bool false)) w:=by
 have hz:∀ w,(Go.sizeOf 139).run E.P w = .ok 4 w:=fun w=>(vb (agg:=true) rfl w).1
 rw [run_callFunc_extern (P:=E.P) Tryz.func228 (by kernel_rfl) (by kernel_rfl) (by kernel_rfl) (e:=Extern.SlicesOverlaps.overlaps #[110,110] #[4]) (by kernel_rfl),
  qrp w 110 4 139 rfl 4 hz a b la ca lb cb h1 tA tB kA kB h2 h3 h4 h5 h6]
 rfl
structure InsB (es:List EntV) (e:EntV) (i cap:Nat) (pad:List AV):Prop where
 t4:(flat ((es.take i).map entA)).length=i * 4
 d4:(flat ((es.drop i).map entA)).length=(es.length - i) * 4
 split:flat (es.map entA)++pad=flat ((es.take i).map entA)++(flat ((es.drop i).map entA)++pad)
 take:(flat (es.map entA)++pad).take (i * 4)=flat ((es.take i).map entA)
 drop:((flat (es.map entA)++pad).drop (0+i * 4)).take ((es.length - i) * 4)=flat ((es.drop i).map entA)
 new:flat ((es.take i++e::es.drop i).map entA)=flat ((es.take i).map entA)++flat [entA e]++flat ((es.drop i).map entA)
 nl:(es.take i++e::es.drop i).length=es.length+1
 src:∀ o ver L c' (S:List AObj),(flat (es.map entA)++pad).length=(cap+1) * 4→es.length≤cap+1→S[o]? = some (.cells ver 139 (flat (es.map entA)++pad))→SrcA S 4 (.os o ver (0+i * 4) L c') L (es.length - i) (flat ((es.drop i).map entA))
theorem insB (es:List EntV) (e:EntV) (i cap:Nat) (pad:List AV) (hi:i<es.length):InsB es e i cap pad:=by
 have ht4:(flat ((es.take i).map entA)).length=i * 4:=by rw [qdr,List.length_take,Nat.min_eq_left (by omega)]
 have hd4:(flat ((es.drop i).map entA)).length=(es.length - i) * 4:=by rw [qdr,List.length_drop]
 have hsplit:flat (es.map entA)++pad=flat ((es.take i).map entA)++(flat ((es.drop i).map entA)++pad):=by
  rw [← List.append_assoc,← qht,List.take_append_drop]
 have hdrop:((flat (es.map entA)++pad).drop (0+i * 4)).take ((es.length - i) * 4)=flat ((es.drop i).map entA):=by rw [Nat.zero_add,hsplit,← ht4,List.drop_left,← hd4,List.take_left]
 refine⟨ht4,hd4,hsplit,by rw [hsplit,← ht4,List.take_left],hdrop,?_,by simp;omega,fun o ver L c' S e3 e5 hS=>?_⟩
 ·rw [qht]
  simp [flat]
 ·have:=SrcA.os (st:=S) (sz:=4) o ver (0+i * 4) L c' (es.length - i) _ _ hS (by rw [e3];omega) (by rw [hdrop];exact qcz fun _=>rfl)
  rw [hdrop] at this
  exact this
set_option maxHeartbeats 4000000 in
theorem zgw (es:List EntV) (e:EntV) (i:Nat) (hi:i<es.length) (hl:es.length<1000000) (st:List AObj) (o ver cap:Nat) (pad:List AV) (e2:st[o]? = some (.cells ver 139 (flat (es.map entA)++pad))) (e3:(flat (es.map entA)++pad).length=(cap+1) * 4) (e5:es.length+1≤cap+1) (e6:cap+1≤maxLen) :
  qp E 188 [.os o ver 0 es.length (cap+1),Iv i,.sl 4 [entA e] none] st fun r st'=>OwnR 4 139 ((es.take i++e::es.drop i).map entA) st (.os o ver 0 es.length (cap+1)) r st':=by
 have hI:=insB es e i cap pad hi
 have hlt:=lt_of_getElem? e2
 have hfl1:(flat [entA e]).length=4:=rfl
 have ht4:=hI.t4
 have hd4:=hI.d4
 have hi1:(if cap+1=i then 0 else 0+i * 4)=0+i * 4:=if_neg (by omega)
 have hi2:(if cap+1=i+1 then 0 else 0+(i+1) * 4)=(i+1) * 4:=by rw [if_neg (by omega)];omega
 obtain⟨B1,hB1⟩:∃ B1,(flat ((es.drop i).map entA)++pad).drop 4=B1:=⟨_,rfl⟩
 obtain⟨A1,hA1⟩:∃ A1,(flat ((es.drop i).map entA)++pad).take 4=A1:=⟨_,rfl⟩
 have hA1l:A1.length=4:=by
  rw [← hA1,List.length_take,List.length_append,hd4]
  omega
 obtain⟨X1,hX1⟩:∃ X1,flat ((es.take i).map entA)++A1++flat ((es.drop i).map entA)++B1.drop ((es.length - i) * 4)=X1:=⟨_,rfl⟩
 have hsp1:zx (flat (es.map entA)++pad) ((i+1) * 4) (flat ((es.drop i).map entA))=X1:=by
  have e1:flat (es.map entA)++pad=(flat ((es.take i).map entA)++A1)++B1:=by rw [hI.split,List.append_assoc,← hA1,← hB1,List.take_append_drop]
  rw [e1,qel _ _ _ (by rw [List.length_append,ht4,hA1l];omega),hd4,hX1]
 have hsp2:zx X1 (0+i * 4) (flat [entA e])=flat ((es.take i++e::es.drop i).map entA)++B1.drop ((es.length - i) * 4):=by
  have e1:X1=flat ((es.take i).map entA)++(A1++(flat ((es.drop i).map entA)++B1.drop ((es.length - i) * 4))):=by rw [← hX1];simp
  rw [e1,qel _ _ _ (by rw [ht4];omega),hfl1,List.drop_append_of_le_length (by omega),List.drop_eq_nil_of_le (by omega:A1.length≤4),hI.new]
  simp
 have hsl1:X1.length=(cap+1) * 4:=by
  rw [← hsp1,qiu (by rw [e3,hd4];omega),e3]
 have hsl2:(flat ((es.take i++e::es.drop i).map entA)++B1.drop ((es.length - i) * 4)).length=(cap+1) * 4:=by
  rw [← hsp2,qiu (by rw [hsl1,hfl1];omega),hsl1]
 have hsrc:=hI.src o ver (es.length+1 - i) (cap+1 - i) st e3 (by omega) e2
 have hnl:=hI.nl
 generalize hXn:flat ((es.take i++e::es.drop i).map entA)++B1.drop ((es.length - i) * 4)=Xn at hsp2 hsl2
 clear hX1 hB1 hA1 hI ht4 hd4
 generalize hdz:flat ((es.drop i).map entA)=dz at hsp1 hsrc
 refine qq Tryz.func188 rfl (Nat.le_of_ble_eq_true rfl) ?_
 rw [List.append_nil]
 generalize flat (es.map entA)++pad=X0 at e2 e3 hsp1
 repeat' (first|apply qn|apply qf|apply qh|apply qj|apply qg)
 refine z7 (o:=o) (ver:=ver) (off:=0) (len:=es.length) (cap:=cap+1) (sz:=4) (i:=i) (j:=es.length) (m:=cap+1) rfl rfl rfl ?_ ?_ ?_ (by omega) (by omega) (by omega) ?_
 ·exact⟨_,rfl⟩
 ·exact⟨rfl,rfl⟩
 ·exact rfl
 repeat' (first|(apply zw (n:=1);(iterate 4 exact rfl))|apply qn|apply qf|apply qh|apply qj|apply qg|(apply qr;(iterate 3 exact rfl))|(apply qd;exact rfl;apply vc;exact cAo)|(apply zw;(iterate 4 exact rfl))|(apply zi;exact rfl;exact rfl;exact q8 (by omega) (by omega))|apply qv)
 refine qr7 rfl rfl rfl ?_
 repeat' (first|apply qn|apply qf|apply qh|apply qj|(apply qr;(iterate 3 exact rfl))|(apply qd;exact rfl;apply vc;exact cAo)|(apply zi;exact rfl;exact rfl;exact q8 (by omega) (by omega))|apply qv)
 refine z7 (o:=o) (ver:=ver) (off:=0) (len:=es.length) (cap:=cap+1) (sz:=4) (i:=0) (j:=es.length+1) (m:=cap+1) rfl rfl rfl ?_ ?_ ?_ (by omega) (by omega) (by omega) ?_
 ·exact rfl
 ·exact⟨_,rfl⟩
 ·exact rfl
 repeat' (first|apply qn|apply qf|apply qh|apply qj|apply qg|(apply zi;exact rfl;exact rfl;exact q8 (by omega) (by omega)))
 refine z7 (o:=o) (ver:=ver) (off:=0) (len:=es.length+1) (cap:=cap+1) (sz:=4) (i:=i+1) (j:=es.length+1) (m:=cap+1) rfl rfl rfl ?_ ?_ ?_ (by omega) (by omega) (by omega) ?_
 ·exact⟨_,rfl⟩
 ·exact⟨rfl,rfl⟩
 ·exact rfl
 rw [hi2]
 repeat' (first|(apply zco;first|apply qn|apply qw|apply qf|(apply qd;exact rfl;apply ku;exact cAo)|(apply qd;exact rfl;apply vc;exact cAo)|(apply qd;exact rfl;apply qkd;exact cRa)|(apply qd;exact rfl;apply qkc;exact cRa)|(apply qd;exact rfl;apply cd_n <;> intro h)|(apply qd;exact rfl;apply cd_t;exact cRa)|(apply qd;exact rfl;apply cd_f;exact cRa)|(apply qd;exact rfl;apply cd_d <;> intro h)|(apply qd;exact rfl;apply cd_s <;> intro h)|apply qv|apply z4|apply qt)|(apply q6n;first|(apply qy;(iterate 4 exact rfl))|(apply qa7;(iterate 4 exact rfl)))|(apply zfn;first|(apply ya;exact cAo)|(apply vq;exact cAo)|(apply vv;exact cAo)|(apply xw;exact cAo)|(apply qwv;exact cRa)|(apply qao;exact cRa)|(apply qbw;exact cRa)|(apply qs6;exact cRa)|(apply qii <;> intro h)|(apply qab;exact cRa)|(apply qfe;exact cRa)|(apply qa1;exact cRa)|(apply xi;exact cRa)|(apply jn <;> intro h)|(apply qg1 <;> intro h))|(apply zfm;first|apply qja|(apply q4g;(iterate 4 exact rfl))|(apply q8e;exact rfl;exact rfl;exact q8 (by omega) (by omega))|(apply q4i;(iterate 4 exact rfl);exact cAs;exact cAs)|(apply qp1;(iterate 5 exact rfl))|(apply qj7;exact rfl;exact rfl;exact cOs)|(apply qma;(iterate 3 exact rfl))|(apply qp0;(iterate 5 exact rfl))|(apply qj8;(iterate 4 exact rfl))|(apply qsg;(iterate 3 exact rfl))|(apply q8d;(iterate 3 exact rfl);exact cAs)|(apply q4h;exact rfl;exact rfl)|(apply qze;exact rfl;exact rfl)|(apply qzf;(iterate 3 exact rfl);omega)|(apply qv5;(iterate 3 exact rfl))|apply qgw|apply qj6|(apply qzd;exact rfl;exact rfl;exact q8 (by omega) (by omega))|(apply ze1;(iterate 3 exact rfl))|(apply quu;(iterate 3 exact rfl);exact cAs)|(apply qut;(iterate 3 exact rfl);exact cAs)|(apply qsf;exact rfl;exact rfl))|(apply q6m;first|(apply qr;(iterate 3 exact rfl))|(apply jj;(iterate 3 exact rfl))|(apply jc;exact rfl;exact rfl;exact cOs)|(apply zi;exact rfl;exact rfl;exact q8 (by omega) (by omega))|(apply xh;exact rfl;exact rfl;exact q8 (by omega) (by omega))|(apply wt;exact rfl;exact rfl)|(apply vt;exact rfl;exact rfl)|(apply qbg;exact rfl;exact rfl)|(apply qe0;exact rfl;exact rfl)|(apply qc9;(iterate 3 exact rfl))|(apply qhz;(iterate 3 exact rfl))|(apply qd6;exact rfl;exact rfl;(first|exact kc _|exact rfl);first|exact kc _|exact rfl)|(apply ql8;exact rfl;exact rfl;(first|exact kc _|exact rfl);first|exact kc _|exact rfl)|(apply q8b;exact rfl;exact rfl;(first|exact kc _|exact rfl);first|exact kc _|exact rfl)|(apply qgb;(iterate 3 exact rfl))|(apply qic;(iterate 3 exact rfl)))|(apply q88;first|(apply zy;(iterate 3 exact rfl))|(apply qni;(iterate 5 exact rfl))|(apply jl;(iterate 5 exact rfl)))|(apply q89;first|(apply qsb;exact rfl)|(apply je;exact rfl)|(apply qi9;exact rfl))|(apply q6o;first|(apply qbm;(iterate 3 exact rfl);exact cAs)|(apply qfn;(iterate 3 exact rfl);exact cAs)|(apply qhq;(iterate 4 exact rfl);exact cAs;exact cAs)|(apply qgv;(iterate 4 exact rfl);(first|assumption|omega|exact Nat.succ_le_succ (Nat.zero_le _)|(simp;omega));exact rfl))|(apply q87;first|(apply zn;(iterate 3 exact rfl))|(apply zw;(iterate 4 exact rfl)))|(apply qu4;first|(apply zj;(iterate 3 exact rfl))|(apply qav;(iterate 4 exact rfl)))|(apply q6p;first|(apply qa3;(iterate 11 exact rfl))|(apply zz;(iterate 11 exact rfl)))|(apply zcp;first|apply qh|apply qj|apply qg|(apply zf;exact rfl;exact rfl)|(apply ql;exact rfl;apply wx;exact cAo)|(apply ql;exact rfl;apply wn;exact cAo)|(apply ql;exact rfl;apply qio;exact cRa)|(apply ql;exact rfl;apply qe6;exact cRa)|(apply ql;exact rfl;apply pk_t;exact cRa)|(apply ql;exact rfl;apply pk_f;exact cRa)|(apply kg;exact rfl;exact rfl)|apply qhy|(apply jm;exact rfl;exact rfl)|(apply qa6;(iterate 4 exact rfl))|(apply ql9;(iterate 3 exact rfl))|(apply v4;(iterate 3 exact rfl);exact cAs)|(apply vu;(iterate 3 exact rfl))|(apply kw;(iterate 9 exact rfl))|(apply xl;exact rfl;exact rfl)|(apply qk5;(iterate 4 exact rfl);(first|assumption|omega|decide);exact rfl)|(apply qdk;(iterate 4 exact rfl);first|assumption|omega|decide)))
 refine qxw (xs:=[entA e]) (o:=o) (ver:=ver) rfl rfl e2 (by simp [flat,AV.cells]) q1j ?_
 repeat' (first|apply qn|apply qh|(apply je;exact rfl)|(apply qd;exact rfl;apply qkd;exact cRa))
 refine qfp [(0,.os o ver 0 (es.length+1) (cap+1)),(1,Iv i),(2,.sl 4 [entA e] none),(7,Iv 1)] st [] ⟨rfl,rfl,rfl,rfl,trivial⟩ rfl rfl fun t=>?_
 refine quy (fun s=>StA [(0,.os o ver 0 (es.length+1) (cap+1)),(1,Iv i),(2,.sl 4 [entA e] none)] (st.set o (.cells ver 139 X1)) [] s) ?_ ?_
 ·refine qka rfl rfl ?_
  (apply yw 0;exact rfl;kernel_rfl;kernel_rfl;kernel_rfl;exact rfl;exact qaq)
  (apply yw 1;exact rfl;kernel_rfl;kernel_rfl;kernel_rfl;exact rfl;exact qaq)
  (apply yw 2;exact rfl;kernel_rfl;kernel_rfl;kernel_rfl;exact rfl;exact qaq)
  (apply yw 5;exact rfl;kernel_rfl;kernel_rfl;kernel_rfl;exact rfl;exact qaq)
  (apply yw 6;exact rfl;kernel_rfl;kernel_rfl;kernel_rfl;exact rfl;exact qaq)
  refine w8 [3,7] (by kernel_rfl) rfl ⟨⟨_,rfl,?_⟩,⟨_,rfl,?_⟩,trivial⟩
  ·(apply zi;exact rfl;exact rfl;exact q8 (by omega) (by omega))
   apply qh
   refine w8 [4,7] (by kernel_rfl) rfl ⟨⟨_,rfl,?_⟩,⟨_,rfl,?_⟩,trivial⟩
   ·(refine z7 (o:=o) (ver:=ver) (off:=0) (len:=es.length+1) (cap:=cap+1) (sz:=4) (i:=i+1) (j:=es.length+1) (m:=cap+1) rfl rfl rfl ?_ ?_ ?_ (by omega) (by omega) (by omega) ?_;exact⟨_,rfl⟩;exact⟨rfl,rfl⟩;exact rfl;rw [hi2])
    apply qh
    refine w8 [7] (by kernel_rfl) rfl ⟨⟨_,rfl,?_⟩,trivial⟩
    (refine z7 (o:=o) (ver:=ver) (off:=0) (len:=es.length+1) (cap:=cap+1) (sz:=4) (i:=i) (j:=es.length+1) (m:=cap+1) rfl rfl rfl ?_ ?_ ?_ (by omega) (by omega) (by omega) ?_;exact⟨_,rfl⟩;exact⟨rfl,rfl⟩;exact rfl;rw [hi1])
    apply qh
    refine w8 [8] (by kernel_rfl) rfl ⟨⟨_,rfl,?_⟩,trivial⟩
    (refine qa0 (o:=o) (ver:=ver) (off:=(i+1) * 4) (sz:=4) (bytes:=56) (m:=es.length - i) rfl rfl e2 hsrc ?_ rfl ⟨⟨_,_,rfl,rfl,rfl,rfl,rfl⟩⟩ ?_ ?_;(show min _ _=_;omega);(rw [e3];omega);rw [hsp1])
    apply qh
    refine qdc (by kernel_rfl) ?_
    exact jb ⟨rfl,rfl,rfl,trivial⟩
   ·(refine z7 (o:=o) (ver:=ver) (off:=0) (len:=es.length+1) (cap:=cap+1) (sz:=4) (i:=i) (j:=es.length+1) (m:=cap+1) rfl rfl rfl ?_ ?_ ?_ (by omega) (by omega) (by omega) ?_;exact⟨_,rfl⟩;exact⟨rfl,rfl⟩;exact rfl;rw [hi1])
    apply qh
    refine w8 [4] (by kernel_rfl) rfl ⟨⟨_,rfl,?_⟩,trivial⟩
    (refine z7 (o:=o) (ver:=ver) (off:=0) (len:=es.length+1) (cap:=cap+1) (sz:=4) (i:=i+1) (j:=es.length+1) (m:=cap+1) rfl rfl rfl ?_ ?_ ?_ (by omega) (by omega) (by omega) ?_;exact⟨_,rfl⟩;exact⟨rfl,rfl⟩;exact rfl;rw [hi2])
    apply qh
    refine w8 [8] (by kernel_rfl) rfl ⟨⟨_,rfl,?_⟩,trivial⟩
    (refine qa0 (o:=o) (ver:=ver) (off:=(i+1) * 4) (sz:=4) (bytes:=56) (m:=es.length - i) rfl rfl e2 hsrc ?_ rfl ⟨⟨_,_,rfl,rfl,rfl,rfl,rfl⟩⟩ ?_ ?_;(show min _ _=_;omega);(rw [e3];omega);rw [hsp1])
    apply qh
    refine qdc (by kernel_rfl) ?_
    exact jb ⟨rfl,rfl,rfl,trivial⟩
  ·(refine z7 (o:=o) (ver:=ver) (off:=0) (len:=es.length+1) (cap:=cap+1) (sz:=4) (i:=i) (j:=es.length+1) (m:=cap+1) rfl rfl rfl ?_ ?_ ?_ (by omega) (by omega) (by omega) ?_;exact⟨_,rfl⟩;exact⟨rfl,rfl⟩;exact rfl;rw [hi1])
   apply qh
   refine w8 [3] (by kernel_rfl) rfl ⟨⟨_,rfl,?_⟩,trivial⟩
   (apply zi;exact rfl;exact rfl;exact q8 (by omega) (by omega))
   apply qh
   refine w8 [4] (by kernel_rfl) rfl ⟨⟨_,rfl,?_⟩,trivial⟩
   (refine z7 (o:=o) (ver:=ver) (off:=0) (len:=es.length+1) (cap:=cap+1) (sz:=4) (i:=i+1) (j:=es.length+1) (m:=cap+1) rfl rfl rfl ?_ ?_ ?_ (by omega) (by omega) (by omega) ?_;exact⟨_,rfl⟩;exact⟨rfl,rfl⟩;exact rfl;rw [hi2])
   apply qh
   refine w8 [8] (by kernel_rfl) rfl ⟨⟨_,rfl,?_⟩,trivial⟩
   (refine qa0 (o:=o) (ver:=ver) (off:=(i+1) * 4) (sz:=4) (bytes:=56) (m:=es.length - i) rfl rfl e2 hsrc ?_ rfl ⟨⟨_,_,rfl,rfl,rfl,rfl,rfl⟩⟩ ?_ ?_;(show min _ _=_;omega);(rw [e3];omega);rw [hsp1])
   apply qh
   refine qdc (by kernel_rfl) ?_
   exact jb ⟨rfl,rfl,rfl,trivial⟩
 ·rintro _ ⟨t,rfl⟩
  have hob:(st.set o (AObj.cells ver 139 X1))[o]? = some (.cells ver 139 X1):=kq e2
  repeat' (first|apply qn|apply qf|apply qj)
  refine z7 (o:=o) (ver:=ver) (off:=0) (len:=es.length+1) (cap:=cap+1) (sz:=4) (i:=i) (j:=es.length+1) (m:=cap+1) rfl rfl rfl ?_ ?_ ?_ (by omega) (by omega) (by omega) ?_
  ·exact⟨_,rfl⟩
  ·exact⟨rfl,rfl⟩
  ·exact rfl
  rw [hi1]
  repeat' (first|apply qj)
  refine qa0 (o:=o) (ver:=ver) (off:=0+i * 4) (sz:=4) (bytes:=56) (L:=1) (m:=1) rfl rfl hob (.sl [entA e] none rfl) ?_ rfl ⟨⟨_,_,rfl,rfl,rfl,rfl,rfl⟩⟩ ?_ ?_
  ·show min _ _=_
   omega
  ·rw [hsl1]
   omega
  rw [hsp2]
  repeat' (first|apply qn|apply qf|apply qh|apply qj|apply qg|apply qt)
  refine qo rfl (q5 rfl) ?_
  show OwnR 4 139 _ st _ (.os o ver 0 (es.length+1) (cap+1)) ((st.set o _).set o (.cells ver 139 Xn))
  rw [List.set_set,← hXn]
  rw [← hXn] at hsl2
  exact⟨.inr ⟨o,ver,cap,_,by rw [List.length_map,hnl],kq e2,hsl2,qjf _,by rw [List.length_map,hnl];omega,e6⟩,by simp,fun j hj hne=>List.getElem?_set_ne fun e=>hne (by rw [e];rfl),fun o' ho'=>.inr ho'⟩
set_option maxHeartbeats 4000000 in
theorem zgv (es:List EntV) (e:EntV) (i:Nat) (hi:i<es.length) (hl:es.length<1000000) (st:List AObj) (o ver cap:Nat) (pad:List AV) (e2:st[o]? = some (.cells ver 139 (flat (es.map entA)++pad))) (e3:(flat (es.map entA)++pad).length=(cap+1) * 4) (e5:es.length=cap+1) (e6:cap+1≤maxLen) :
  qp E 188 [.os o ver 0 es.length (cap+1),Iv i,.sl 4 [entA e] none] st fun r st'=>OwnR 4 139 ((es.take i++e::es.drop i).map entA) st (.os o ver 0 es.length (cap+1)) r st':=by
 have hI:=insB es e i cap pad hi
 have hlt:=lt_of_getElem? e2
 have hfl1:(flat [entA e]).length=4:=rfl
 have ht4:=hI.t4
 have hd4:=hI.d4
 have htake:=hI.take
 have hi1:(if cap+1=i then 0 else 0+i * 4)=0+i * 4:=if_neg (by omega)
 have hsrc:=fun S=>hI.src o ver (es.length - i) (cap+1 - i) S e3 (by omega)
 have hnl:=hI.nl
 have hnew:=hI.new
 have hk9:Iv ((es.length:Int)+1 - i)=Iv ((es.length+1 - i:Nat):Int):=congrArg (fun z:Int=>Iv z) (by omega)
 have hkk:i+(es.length+1 - i)=es.length+1:=by omega
 generalize flat ((es.drop i).map entA)=dz at hsrc hd4 hnew
 refine qq Tryz.func188 rfl (Nat.le_of_ble_eq_true rfl) ?_
 rw [List.append_nil]
 generalize flat (es.map entA)++pad=X0 at e2 e3 htake hsrc
 repeat' (first|apply qn|apply qf|apply qh|apply qj|apply qg)
 refine z7 (o:=o) (ver:=ver) (off:=0) (len:=es.length) (cap:=cap+1) (sz:=4) (i:=i) (j:=es.length) (m:=cap+1) rfl rfl rfl ?_ ?_ ?_ (by omega) (by omega) (by omega) ?_
 ·exact⟨_,rfl⟩
 ·exact⟨rfl,rfl⟩
 ·exact rfl
 repeat' (first|(apply zw (n:=1);(iterate 4 exact rfl))|apply qn|apply qf|apply qh|apply qj|apply qg|(apply qr;(iterate 3 exact rfl))|(apply qd;exact rfl;apply vc;exact cAo)|(apply zw;(iterate 4 exact rfl))|(apply zi;exact rfl;exact rfl;exact q8 (by omega) (by omega))|apply qv)
 refine qr7 rfl rfl rfl ?_
 refine qsc [(0,.os o ver 0 es.length (cap+1)),(1,Iv i),(2,.sl 4 [entA e] none),(7,Iv 1),(8,Iv es.length),(28,Iv ((es.length:Int)+1)),(30,Iv ((cap+1:Nat):Int))] st [] ⟨rfl,rfl,rfl,rfl,rfl,rfl,rfl,trivial⟩ rfl rfl fun t=>?_
 repeat' (first|apply qn|apply qf|apply qh|apply qj|(apply qr;(iterate 3 exact rfl))|(apply qd;exact rfl;apply ku;exact cAo))
 refine z7 (o:=o) (ver:=ver) (off:=0) (len:=es.length) (cap:=cap+1) (sz:=4) (i:=0) (j:=i) (m:=cap+1) rfl rfl rfl ?_ ?_ ?_ (by omega) (by omega) (by omega) ?_
 ·exact rfl
 ·exact⟨_,rfl⟩
 ·exact rfl
 repeat' (first|apply qj|(apply zi;exact rfl;exact rfl;exact q8 (by omega) (by omega))|(apply xh;exact rfl;exact rfl;exact q8 (by omega) (by omega)))
 refine qqu (sz:=4) (bytes:=56) (o:=o) (ver:=ver) (n:=i) (cap:=cap+1) (k:=es.length+1 - i) (cs:=X0) rfl hk9 e2 rfl rfl ⟨⟨_,_,rfl,rfl,rfl,rfl,rfl⟩⟩ (by omega) (by omega) (by omega) (by rw [e3];omega) (by simp only [maxLen];omega) (by omega) fun cap' zs z1 z2 z3=>?_
 rw [hkk,htake]
 refine qsc [(0,.os o ver 0 es.length (cap+1)),(1,Iv i),(2,.sl 4 [entA e] none),(7,Iv 1),(40,.os st.length 0 0 (es.length+1) cap')] (st++[.cells 0 139 (flat ((es.take i).map entA)++zs)]) [] ⟨rfl,rfl,rfl,rfl,rfl,trivial⟩ rfl rfl fun t=>?_
 obtain⟨cap',rfl⟩:∃ c,cap'=c+1:=⟨cap' - 1,by omega⟩
 have hi3:(if cap'+1=i then 0 else 0+i * 4)=0+i * 4:=if_neg (by omega)
 have hi4:(if cap'+1=i+1 then 0 else 0+(i+1) * 4)=(i+1) * 4:=by rw [if_neg (by omega)];omega
 have hsp1:zx (flat ((es.take i).map entA)++zs) (0+i * 4) (flat [entA e])=(flat ((es.take i).map entA)++flat [entA e])++zs.drop 4:=qel _ _ _ (by rw [ht4];omega)
 have hsp2:zx ((flat ((es.take i).map entA)++flat [entA e])++zs.drop 4) ((i+1) * 4) dz=flat ((es.take i++e::es.drop i).map entA)++(zs.drop 4).drop dz.length:=by
  rw [qel _ _ _ (by rw [List.length_append,ht4,hfl1];omega),hnew]
 have hl1:((flat ((es.take i).map entA)++flat [entA e])++zs.drop 4).length=(cap'+1) * 4:=by
  simp only [List.length_append,List.length_drop,ht4,hfl1,z1]
  omega
 have hl2:(flat ((es.take i++e::es.drop i).map entA)++(zs.drop 4).drop dz.length).length=(cap'+1) * 4:=by
  rw [← hsp2,qiu (by rw [hl1,hd4];omega),hl1]
 have hl0:(flat ((es.take i).map entA)++zs).length=(cap'+1) * 4:=by
  rw [List.length_append,ht4,z1]
  omega
 repeat' (first|apply qn|apply qf|apply qh|apply qj|apply qg)
 refine z7 (o:=st.length) (ver:=0) (off:=0) (len:=es.length+1) (cap:=cap'+1) (sz:=4) (i:=i) (j:=es.length+1) (m:=cap'+1) rfl rfl rfl ?_ ?_ ?_ (by omega) (by omega) (by omega) ?_
 ·exact⟨_,rfl⟩
 ·exact⟨rfl,rfl⟩
 ·exact rfl
 rw [hi3]
 repeat' (first|apply qj)
 refine qa0 (o:=st.length) (ver:=0) (off:=0+i * 4) (sz:=4) (bytes:=56) (L:=1) (m:=1) rfl rfl xm (.sl [entA e] none rfl) ?_ rfl ⟨⟨_,_,rfl,rfl,rfl,rfl,rfl⟩⟩ ?_ ?_
 ·show min _ _=_
  omega
 ·rw [hl0]
  omega
 rw [hsp1]
 generalize hX1:(flat ((es.take i).map entA)++flat [entA e])++zs.drop 4=X1 at hsp2 hl1
 have hbo:(st++[AObj.cells 0 139 (flat ((es.take i).map entA)++zs)])[st.length]? = some (.cells 0 139 (flat ((es.take i).map entA)++zs)):=xm
 have hS1n:((st++[AObj.cells 0 139 (flat ((es.take i).map entA)++zs)]).set st.length (.cells 0 139 X1))[st.length]? = some (.cells 0 139 X1):=kq hbo
 have hS1o:((st++[AObj.cells 0 139 (flat ((es.take i).map entA)++zs)]).set st.length (.cells 0 139 X1))[o]? = some (.cells ver 139 X0):=by
  rw [List.getElem?_set_ne (by omega),List.getElem?_append_left hlt]
  exact e2
 have hS1j:∀ j,j<st.length→((st++[AObj.cells 0 139 (flat ((es.take i).map entA)++zs)]).set st.length (.cells 0 139 X1))[j]? = st[j]?:=fun j hj=>by
  rw [List.getElem?_set_ne (by omega),List.getElem?_append_left hj]
 have hS1l:((st++[AObj.cells 0 139 (flat ((es.take i).map entA)++zs)]).set st.length (.cells 0 139 X1)).length=st.length+1:=by simp
 repeat' (first|apply qn|apply qh)
 refine qfp [(0,.os o ver 0 es.length (cap+1)),(1,Iv i),(7,Iv 1),(9,.os st.length 0 0 (es.length+1) (cap'+1))] ((st++[AObj.cells 0 139 (flat ((es.take i).map entA)++zs)]).set st.length (.cells 0 139 X1)) [] ⟨rfl,rfl,rfl,rfl,trivial⟩ rfl rfl fun t=>?_
 generalize (st++[AObj.cells 0 139 (flat ((es.take i).map entA)++zs)]).set st.length (.cells 0 139 X1)=S1 at hS1n hS1o hS1j hS1l
 refine quy (fun s=>StA [(9,.os st.length 0 0 (es.length+1) (cap'+1))] (S1.set st.length (.cells 0 139 (flat ((es.take i++e::es.drop i).map entA)++(zs.drop 4).drop dz.length))) [] s) ?_ ?_
 ·refine qka rfl rfl ?_
  (apply yw 0;exact rfl;kernel_rfl;kernel_rfl;kernel_rfl;exact rfl;exact qaq)
  (apply yw 1;exact rfl;kernel_rfl;kernel_rfl;kernel_rfl;exact rfl;exact qaq)
  (apply yw 2;exact rfl;kernel_rfl;kernel_rfl;kernel_rfl;exact rfl;exact qaq)
  (apply yw 5;exact rfl;kernel_rfl;kernel_rfl;kernel_rfl;exact rfl;exact qaq)
  (apply yw 6;exact rfl;kernel_rfl;kernel_rfl;kernel_rfl;exact rfl;exact qaq)
  refine w8 [3,7] (by kernel_rfl) rfl ⟨⟨_,rfl,?_⟩,⟨_,rfl,?_⟩,trivial⟩
  ·(apply zi;exact rfl;exact rfl;exact q8 (by omega) (by omega))
   apply qh
   refine w8 [4,7] (by kernel_rfl) rfl ⟨⟨_,rfl,?_⟩,⟨_,rfl,?_⟩,trivial⟩
   ·(refine z7 (o:=st.length) (ver:=0) (off:=0) (len:=es.length+1) (cap:=cap'+1) (sz:=4) (i:=i+1) (j:=es.length+1) (m:=cap'+1) rfl rfl rfl ?_ ?_ ?_ (by omega) (by omega) (by omega) ?_;exact⟨_,rfl⟩;exact⟨rfl,rfl⟩;exact rfl;rw [hi4])
    apply qh
    refine w8 [7] (by kernel_rfl) rfl ⟨⟨_,rfl,?_⟩,trivial⟩
    (refine z7 (o:=o) (ver:=ver) (off:=0) (len:=es.length) (cap:=cap+1) (sz:=4) (i:=i) (j:=es.length) (m:=cap+1) rfl rfl rfl ?_ ?_ ?_ (by omega) (by omega) (by omega) ?_;exact⟨_,rfl⟩;exact⟨rfl,rfl⟩;exact rfl;rw [hi1])
    apply qh
    refine w8 [8] (by kernel_rfl) rfl ⟨⟨_,rfl,?_⟩,trivial⟩
    (refine qa0 (o:=st.length) (ver:=0) (off:=(i+1) * 4) (sz:=4) (bytes:=56) (m:=es.length - i) rfl rfl hS1n (hsrc S1 hS1o) ?_ rfl ⟨⟨_,_,rfl,rfl,rfl,rfl,rfl⟩⟩ ?_ ?_;(show min _ _=_;omega);(rw [hl1];omega);rw [hsp2])
    apply qh
    refine qdc (by kernel_rfl) ?_
    exact jb ⟨rfl,trivial⟩
   ·(refine z7 (o:=o) (ver:=ver) (off:=0) (len:=es.length) (cap:=cap+1) (sz:=4) (i:=i) (j:=es.length) (m:=cap+1) rfl rfl rfl ?_ ?_ ?_ (by omega) (by omega) (by omega) ?_;exact⟨_,rfl⟩;exact⟨rfl,rfl⟩;exact rfl;rw [hi1])
    apply qh
    refine w8 [4] (by kernel_rfl) rfl ⟨⟨_,rfl,?_⟩,trivial⟩
    (refine z7 (o:=st.length) (ver:=0) (off:=0) (len:=es.length+1) (cap:=cap'+1) (sz:=4) (i:=i+1) (j:=es.length+1) (m:=cap'+1) rfl rfl rfl ?_ ?_ ?_ (by omega) (by omega) (by omega) ?_;exact⟨_,rfl⟩;exact⟨rfl,rfl⟩;exact rfl;rw [hi4])
    apply qh
    refine w8 [8] (by kernel_rfl) rfl ⟨⟨_,rfl,?_⟩,trivial⟩
    (refine qa0 (o:=st.length) (ver:=0) (off:=(i+1) * 4) (sz:=4) (bytes:=56) (m:=es.length - i) rfl rfl hS1n (hsrc S1 hS1o) ?_ rfl ⟨⟨_,_,rfl,rfl,rfl,rfl,rfl⟩⟩ ?_ ?_;(show min _ _=_;omega);(rw [hl1];omega);rw [hsp2])
    apply qh
    refine qdc (by kernel_rfl) ?_
    exact jb ⟨rfl,trivial⟩
  ·(refine z7 (o:=o) (ver:=ver) (off:=0) (len:=es.length) (cap:=cap+1) (sz:=4) (i:=i) (j:=es.length) (m:=cap+1) rfl rfl rfl ?_ ?_ ?_ (by omega) (by omega) (by omega) ?_;exact⟨_,rfl⟩;exact⟨rfl,rfl⟩;exact rfl;rw [hi1])
   apply qh
   refine w8 [3] (by kernel_rfl) rfl ⟨⟨_,rfl,?_⟩,trivial⟩
   (apply zi;exact rfl;exact rfl;exact q8 (by omega) (by omega))
   apply qh
   refine w8 [4] (by kernel_rfl) rfl ⟨⟨_,rfl,?_⟩,trivial⟩
   (refine z7 (o:=st.length) (ver:=0) (off:=0) (len:=es.length+1) (cap:=cap'+1) (sz:=4) (i:=i+1) (j:=es.length+1) (m:=cap'+1) rfl rfl rfl ?_ ?_ ?_ (by omega) (by omega) (by omega) ?_;exact⟨_,rfl⟩;exact⟨rfl,rfl⟩;exact rfl;rw [hi4])
   apply qh
   refine w8 [8] (by kernel_rfl) rfl ⟨⟨_,rfl,?_⟩,trivial⟩
   (refine qa0 (o:=st.length) (ver:=0) (off:=(i+1) * 4) (sz:=4) (bytes:=56) (m:=es.length - i) rfl rfl hS1n (hsrc S1 hS1o) ?_ rfl ⟨⟨_,_,rfl,rfl,rfl,rfl,rfl⟩⟩ ?_ ?_;(show min _ _=_;omega);(rw [hl1];omega);rw [hsp2])
   apply qh
   refine qdc (by kernel_rfl) ?_
   exact jb ⟨rfl,trivial⟩
 ·rintro _ ⟨t,rfl⟩
  repeat' (first|apply qn|apply qf|apply qh|apply qj|apply qg|apply qt)
  refine qo rfl (q5 rfl) ?_
  show OwnR 4 139 _ st _ (.os st.length 0 0 (es.length+1) (cap'+1)) (S1.set st.length (.cells 0 139 (flat ((es.take i++e::es.drop i).map entA)++(zs.drop 4).drop dz.length)))
  refine⟨.inr ⟨st.length,0,cap',_,by rw [List.length_map,hnl],kq hS1n,hl2,qjf _,by rw [List.length_map,hnl];omega,z3⟩,by rw [List.length_set,hS1l];omega,fun j hj _=>?_,fun o' ho'=>?_⟩
  ·rw [List.getElem?_set_ne (by omega)]
   exact hS1j j hj
  ·simp only [zo,Option.some.injEq] at ho'
   left
   omega
theorem za4 (es:List EntV) (e:EntV) (i:Nat) (hi:i≤es.length) (hl:es.length<1000000) (st:List AObj) (c:AV) (hc:OwnS st 4 139 (es.map entA) c):qp E 188 [c,Iv i,.sl 4 [entA e] none] st fun r st'=>OwnR 4 139 ((es.take i++e::es.drop i).map entA) st c r st':=by
 have hml:(es.map entA).length=es.length:=by simp
 have hap:i=es.length→(es.take i++e::es.drop i).map entA=es.map entA++[entA e]:=fun h=>by subst h;simp
 rcases hc with⟨h0,hnr⟩ | ⟨o,ver,cap,pad,rfl,e2,e3,e4,e5,e6⟩
 ·have hes:es=[]:=by simpa using h0
  subst hes
  obtain rfl:i=0:=by simpa using hi
  rw [hap rfl]
  exact zgt e st c hnr
 ·rw [hml] at e5 ⊢
  by_cases hin:i=es.length
  ·rw [hap hin]
   subst hin
   exact zgu es e hl st o ver cap pad e2 e3 e5 e6
  ·by_cases hroom:es.length+1≤cap+1
   ·exact zgw es e i (by omega) hl st o ver cap pad e2 e3 hroom e6
   ·exact zgv es e i (by omega) hl st o ver cap pad e2 e3 (by omega) e6
end Go.Proofs.YtmoklbacdkmkaaaGreatDoor
namespace Go.Pl
open Go Go.Proofs
def qpp (l:zg) (i:Nat) (x:zv):zg:=match l.ents[i]? with
 |some e=>⟨l.ents.set i ⟨x,e.id⟩,l.next,l.many⟩
 |none=>l
def qbe (l:zg) (id:Int) (fs:List Fld):ErrV×zg:=if atF l id<0 then (.num 7,l) else if j7 fs = .no then (.no,qpp l (atF l id).toNat (qda fs)) else (j7 fs,l)
def delL (l:zg) (i:Nat):zg:=⟨l.ents.take i++l.ents.drop (i+1),l.next,l.many - 1⟩
def delF (l:zg) (id:Int):ErrV×zg:=if atF l id<0 then (.num 7,l) else (.no,delL l (atF l id).toNat)
def insL (l:zg) (k:Nat) (x:zv):zg:=⟨l.ents.take k++⟨x,l.next⟩::l.ents.drop k,l.next+1,l.many+1⟩
def insF (l:zg) (id:Int) (fs:List Fld):Int×ErrV×zg:=
 if atF l id<0∧id≠0 then (0,.num 7,l) else if j7 fs = .no then (if 400≤l.many then (0,.num 11,l) else (l.next,.no,insL l (atF l id+1).toNat (qda fs))) else (0,j7 fs,l)
structure LB (n:Nat) (l:zg):Prop where
 small:n<900000
 len:l.ents.length≤n
 nx0:1≤l.next
 nx1:l.next≤n+1
 mn0 : -(n:Int)≤l.many
 mn1:l.many≤n
theorem zd0 {n:Nat} {l:zg} (h:LB n l) (hs:n+1<900000) (id:Int) (fs:List Fld):LB (n+1) (qbe l id fs).2:=by
 have h1:=h.len;have h2:=h.nx0;have h3:=h.nx1;have h4:=h.mn0;have h5:=h.mn1
 unfold qbe
 split
 ·exact⟨hs,by simp only;omega,h2,by simp only;omega,by simp only;omega,by simp only;omega⟩
 ·split
  ·unfold qpp
   split
   ·exact⟨hs,by simp;omega,h2,by simp only;omega,by simp only;omega,by simp only;omega⟩
   ·exact⟨hs,by simp only;omega,h2,by simp only;omega,by simp only;omega,by simp only;omega⟩
  ·exact⟨hs,by simp only;omega,h2,by simp only;omega,by simp only;omega,by simp only;omega⟩
theorem zfj {n:Nat} {l:zg} (h:LB n l) (hs:n+1<900000) (id:Int):LB (n+1) (delF l id).2:=by
 have h1:=h.len;have h2:=h.nx0;have h3:=h.nx1;have h4:=h.mn0;have h5:=h.mn1
 unfold delF
 split
 ·exact⟨hs,by simp only;omega,h2,by simp only;omega,by simp only;omega,by simp only;omega⟩
 ·exact⟨hs,by simp [delL];omega,h2,by simp only [delL];omega,by simp only [delL];omega,by simp only [delL];omega⟩
theorem zft {n:Nat} {l:zg} (h:LB n l) (hs:n+1<900000) (id:Int) (fs:List Fld):LB (n+1) (insF l id fs).2.2:=by
 have h1:=h.len;have h2:=h.nx0;have h3:=h.nx1;have h4:=h.mn0;have h5:=h.mn1
 have same:LB (n+1) l:=⟨hs,by omega,h2,by omega,by omega,by omega⟩
 unfold insF
 split
 ·exact same
 ·split
  ·split
   ·exact same
   ·exact⟨hs,by simp [insL];omega,by simp only [insL];omega,by simp only [insL];omega,by simp only [insL];omega,by simp only [insL];omega⟩
  ·exact same
end Go.Pl
namespace Go.Proofs.YtmoklbacdkmkaaaGreatDoor
open Go Go.Av Go.RowKit Go.Proofs Go.Pl
def oneF (l:zg) (x:qu):Int×ErrV×zg:=if x.kind=1 then (0,qbe l x.id x.fields) else if x.kind=2 then (0,delF l x.id) else insF l x.id x.fields
theorem qpm {n:Nat} {l:zg} (h:LB n l) (hs:n+1<900000) (x:qu):LB (n+1) (oneF l x).2.2:=by
 unfold oneF
 split
 ·exact zd0 h hs _ _
 ·split
  ·exact zfj h hs _
  ·exact zft h hs _ _
theorem zf0 (l:zg) (hl:l.ents.length<1000000):vn E 72 [.a (y5 l)] 0 (hpF []) ⟨.bx 0 0,wi [],lstH 1 l++ww [],2⟩:=by
 refine yx [.a (y5 l)] [] 0 (.bx 0 0) (lstH 1 l) 2 Tryz.func72 rfl rfl rfl rfl fun S F ρ=>?_
 apply qe [19]
 repeat' (first|apply And.intro|(intro h;try exact cDd)|exact⟨Tryz.call130⟩|(refine Exists.intro _ ⟨q26 [.sl 4 (l.ents.map entA) none] _ (fun _=>rfl) (fun st=>q6f l.ents st hl),?_⟩)|exact cSd|apply qc [19]|refine exr ?_|refine qi ?_)
theorem zf5 (n:Nat) (l:zg) (id:Int) (fs:List Fld) (hB:LB n l) (hK:KeyB fs) (hl:fs.length<1000000):vn E 131 [.bx 0 0,.i id,.a (jw fs)] 2 (hpF (lstH 1 l)) ⟨.a (errA (qbe l id fs).1),wi (lstH 1 l),lstH 2 (qbe l id fs).2++ww (lstH 1 l),3⟩:=by
 refine yx [.bx 0 0,.i id,.a (jw fs)] (lstH 1 l) 2 (.a (errA (qbe l id fs).1)) (lstH 2 (qbe l id fs).2) 3 Tryz.func131 rfl rfl rfl rfl fun S F ρ=>?_
 have hle:=hB.len
 have hsm:=hB.small
 have h1:=qux l id (by omega)
 have h2:=fun st=>q5f fs st hK hl
 unfold qbe
 rcases qjb l id with h | ⟨i,e,h,he,hid,hid1⟩
 ·rw [h] at h1 ⊢
  rw [if_pos (by decide)]
  apply qe []
  repeat' (first|apply And.intro|(intro h;try exact cDd)|exact⟨Tryz.call69⟩|(refine j8 h1 ?_)|exact cSd|apply qc []|refine exr ?_|refine qi ?_)
 ·rw [h] at h1 ⊢
  rw [if_neg (by omega)]
  have hm:(l.ents.map entA)[i]? = some (entA e):=by rw [List.getElem?_map,he];rfl
  have hil:=lt_of_getElem? hm
  unfold qda at h2 ⊢
  cases hc:j7 fs with
  |no=>
   rw [hc,if_pos rfl] at h2
   rw [if_pos rfl,if_pos rfl]
   unfold qpp
   rw [Int.toNat_natCast,he]
   apply qe []
   repeat' (first|apply And.intro|(intro h;try exact cDd)|exact⟨Tryz.call69⟩|(refine j8 h1 ?_)|exact⟨Tryz.call186⟩|refine cpe h2 ?_|(refine qg3 (i:=i) rfl rfl rfl rfl rfl rfl (by omega) ?_)|(refine zaa (i:=i) (j:=0) (z:=entA e) (z':=entA ⟨⟨3,zq fs,fs⟩,e.id⟩) (u:=z6 ⟨3,zq fs,fs⟩) rfl rfl (fun _=>rfl) rfl rfl rfl hm rfl rfl ?_)|exact cSd|apply qc []|refine exr ?_|refine qi ?_)
   all_goals (simp [List.map_set];done)
  |num m=>
   rw [hc,if_neg (by simp)] at h2
   rw [if_neg (by simp)]
   apply qe []
   repeat' (first|apply And.intro|(intro h;try exact cDd)|exact⟨Tryz.call69⟩|(refine j8 h1 ?_)|exact⟨Tryz.call186⟩|refine cpe h2 ?_|exact cSd|apply qc []|refine exr ?_|refine qi ?_)
  |at' a m=>
   rw [hc,if_neg (by simp)] at h2
   rw [if_neg (by simp)]
   apply qe []
   repeat' (first|apply And.intro|(intro h;try exact cDd)|exact⟨Tryz.call69⟩|(refine j8 h1 ?_)|exact⟨Tryz.call186⟩|refine cpe h2 ?_|exact cSd|apply qc []|refine exr ?_|refine qi ?_)
theorem zhr (n:Nat) (l:zg) (id:Int) (hB:LB n l):vn E 132 [.bx 0 0,.i id] 2 (hpF (lstH 1 l)) ⟨.a (errA (delF l id).1),wi (lstH 1 l),lstH 2 (delF l id).2++ww (lstH 1 l),3⟩:=by
 refine yx [.bx 0 0,.i id] (lstH 1 l) 2 (.a (errA (delF l id).1)) (lstH 2 (delF l id).2) 3 Tryz.func132 rfl rfl rfl rfl fun S F ρ=>?_
 have hle:=hB.len
 have hsm:=hB.small
 have h4:=hB.mn0
 have h5:=hB.mn1
 have h1:=qux l id (by omega)
 unfold delF
 rcases qjb l id with h | ⟨i,e,h,he,hid,hid1⟩
 ·rw [h] at h1 ⊢
  rw [if_pos (by decide)]
  apply qe []
  repeat' (first|apply And.intro|(intro h;try exact cDd)|exact⟨Tryz.call69⟩|(refine j8 h1 ?_)|exact cSd|apply qc []|refine exr ?_|refine qi ?_)
 ·rw [h] at h1 ⊢
  rw [if_neg (by omega)]
  have hil:=lt_of_getElem? he
  have h2:=qq0 (f:=187) (E:=E) (xs:=l.ents.map entA) [Iv i,Iv ((i:Int)+1)] rfl (fun st c hc=>zib l.ents i hil (by omega) st c hc)
  unfold delL
  rw [Int.toNat_natCast]
  apply qe []
  repeat' (first|apply And.intro|(intro h;try exact cDd)|exact⟨Tryz.call69⟩|(refine j8 h1 ?_)|exact⟨Tryz.call187⟩|(refine j8 h2 ?_)|exact cSd|apply qc []|refine exr ?_|refine qi ?_)
theorem zhv (n:Nat) (l:zg) (id:Int) (fs:List Fld) (hB:LB n l) (hK:KeyB fs) (hl:fs.length<1000000):vn E 133 [.bx 0 0,.i id,.a (jw fs)] 2 (hpF (lstH 1 l)) ⟨.tu [.i (insF l id fs).1,.a (errA (insF l id fs).2.1)],wi (lstH 1 l),lstH 2 (insF l id fs).2.2++ww (lstH 1 l),3⟩:=by
 refine yx [.bx 0 0,.i id,.a (jw fs)] (lstH 1 l) 2 (.tu [.i (insF l id fs).1,.a (errA (insF l id fs).2.1)]) (lstH 2 (insF l id fs).2.2) 3 Tryz.func133 rfl rfl rfl rfl fun S F ρ=>?_
 have hle:=hB.len
 have hsm:=hB.small
 have h4:=hB.mn0
 have h5:=hB.mn1
 have h6:=hB.nx0
 have h7:=hB.nx1
 have h1:=qux l id (by omega)
 have h2:=fun st=>q5f fs st hK hl
 unfold insF
 rcases qjb l id with h | ⟨i,e,h,he,hid,hid1⟩
 ·rw [h] at h1 ⊢
  by_cases h0:id=0
  ·rw [if_neg (fun q=>q.2 h0)]
   rw [show ((-1:Int)+1).toNat=0 from rfl]
   unfold qda at h2 ⊢
   cases hc:j7 fs with
   |no=>
    rw [hc,if_pos rfl] at h2
    rw [if_pos rfl,if_pos rfl]
    by_cases hm:400≤l.many
    ·rw [if_pos hm]
     apply qe []
     repeat' (first|apply And.intro|(intro h;try exact cDd)|exact⟨Tryz.call69⟩|(refine j8 h1 ?_)|exact⟨Tryz.call186⟩|refine cpe h2 ?_|exact cSd|apply qc []|refine exr ?_|refine qi ?_)
    ·rw [if_neg hm]
     have h3:=qq0 (f:=188) (E:=E) (xs:=l.ents.map entA) [Iv ((0:Nat):Int),.sl 4 [entA ⟨⟨3,zq fs,fs⟩,l.next⟩] none] rfl (fun st c hc=>za4 l.ents ⟨⟨3,zq fs,fs⟩,l.next⟩ (0) (by omega) (by omega) st c hc)
     unfold insL
     apply qe []
     repeat' (first|apply And.intro|(intro h;try exact cDd)|exact⟨Tryz.call69⟩|(refine j8 h1 ?_)|exact⟨Tryz.call186⟩|refine cpe h2 ?_|exact⟨Tryz.call188⟩|(refine j8 h3 ?_)|exact cSd|apply qc []|refine exr ?_|refine qi ?_)
   |num m=>
    rw [hc,if_neg (by simp)] at h2
    rw [if_neg (by simp)]
    apply qe []
    repeat' (first|apply And.intro|(intro h;try exact cDd)|exact⟨Tryz.call69⟩|(refine j8 h1 ?_)|exact⟨Tryz.call186⟩|refine cpe h2 ?_|exact cSd|apply qc []|refine exr ?_|refine qi ?_)
   |at' a m=>
    rw [hc,if_neg (by simp)] at h2
    rw [if_neg (by simp)]
    apply qe []
    repeat' (first|apply And.intro|(intro h;try exact cDd)|exact⟨Tryz.call69⟩|(refine j8 h1 ?_)|exact⟨Tryz.call186⟩|refine cpe h2 ?_|exact cSd|apply qc []|refine exr ?_|refine qi ?_)
  ·rw [if_pos ⟨by decide,h0⟩]
   apply qe []
   repeat' (first|apply And.intro|(intro h;try exact cDd)|exact⟨Tryz.call69⟩|(refine j8 h1 ?_)|exact cSd|apply qc []|refine exr ?_|refine qi ?_)
 ·rw [h] at h1 ⊢
  have hil:=lt_of_getElem? he
  rw [if_neg (fun q=>absurd q.1 (by omega))]
  rw [show ((i:Int)+1).toNat=i+1 from rfl]
  unfold qda at h2 ⊢
  cases hc:j7 fs with
  |no=>
   rw [hc,if_pos rfl] at h2
   rw [if_pos rfl,if_pos rfl]
   by_cases hm:400≤l.many
   ·rw [if_pos hm]
    apply qe []
    repeat' (first|apply And.intro|(intro h;try exact cDd)|exact⟨Tryz.call69⟩|(refine j8 h1 ?_)|exact⟨Tryz.call186⟩|refine cpe h2 ?_|exact cSd|apply qc []|refine exr ?_|refine qi ?_)
   ·rw [if_neg hm]
    have h3:=qq0 (f:=188) (E:=E) (xs:=l.ents.map entA) [Iv ((i+1:Nat):Int),.sl 4 [entA ⟨⟨3,zq fs,fs⟩,l.next⟩] none] rfl (fun st c hc=>za4 l.ents ⟨⟨3,zq fs,fs⟩,l.next⟩ (i+1) (by omega) (by omega) st c hc)
    unfold insL
    apply qe []
    repeat' (first|apply And.intro|(intro h;try exact cDd)|exact⟨Tryz.call69⟩|(refine j8 h1 ?_)|exact⟨Tryz.call186⟩|refine cpe h2 ?_|exact⟨Tryz.call188⟩|(refine j8 h3 ?_)|exact cSd|apply qc []|refine exr ?_|refine qi ?_)
  |num m=>
   rw [hc,if_neg (by simp)] at h2
   rw [if_neg (by simp)]
   apply qe []
   repeat' (first|apply And.intro|(intro h;try exact cDd)|exact⟨Tryz.call69⟩|(refine j8 h1 ?_)|exact⟨Tryz.call186⟩|refine cpe h2 ?_|exact cSd|apply qc []|refine exr ?_|refine qi ?_)
  |at' a m=>
   rw [hc,if_neg (by simp)] at h2
   rw [if_neg (by simp)]
   apply qe []
   repeat' (first|apply And.intro|(intro h;try exact cDd)|exact⟨Tryz.call69⟩|(refine j8 h1 ?_)|exact⟨Tryz.call186⟩|refine cpe h2 ?_|exact cSd|apply qc []|refine exr ?_|refine qi ?_)
def yg:Nat→List qu→zg→List Int→ErrV×zg×List Int
 | _,[],l,ids=>(.no,l,ids)
 |k,x::r,l,ids=>if (oneF l x).2.1 = .no then yg (k+1) r (oneF l x).2.2 (if 0<(oneF l x).1 then ids++[(oneF l x).1] else ids) else (.at' k (oneF l x).2.1.code,l,ids)
def doF (l:zg) (b:List qu):ErrV×zg×List Int:=if eErr b = .no then yg 0 b l [] else (eErr b,l,[])
def doA (r:ErrV×zg×List Int):AV:=match r.1 with
 | .no=>.tu [y5 r.2.1,qby r.2.2,errA .no]
 |e=>.tu [.v (.pointer none),qby [],errA e]
theorem zcl (r:ErrV×zg×List Int):Pure (doA r):=by
 unfold doA
 split
 ·exact qag (qil _) (qc5 _) (vl _)
 ·exact qag (qs _) (qc5 _) (vl _)
theorem qov {l:zg} {x:qu} (h:(oneF l x).2.1≠.no):(oneF l x).2.1.code≠0:=by
 have key:∀ fs:List Fld,j7 fs≠.no→(j7 fs).code≠0:=fun fs h h'=>h ((qjd fs).1 h')
 unfold oneF at h ⊢
 split
 ·rename_i h1
  rw [if_pos h1] at h
  unfold qbe at h ⊢
  split
  ·exact (by decide:(ErrV.num 7).code≠0)
  ·rename_i h2
   rw [if_neg h2] at h
   split
   ·rename_i h3
    rw [if_pos h3] at h
    exact absurd rfl h
   ·exact key _ (by assumption)
 ·rename_i h1
  rw [if_neg h1] at h
  split
  ·rename_i h2
   rw [if_pos h2] at h
   unfold delF at h ⊢
   split
   ·exact (by decide:(ErrV.num 7).code≠0)
   ·rename_i h3
    rw [if_neg h3] at h
    exact absurd rfl h
  ·rename_i h2
   rw [if_neg h2] at h
   unfold insF at h ⊢
   split
   ·exact (by decide:(ErrV.num 7).code≠0)
   ·rename_i h3
    rw [if_neg h3] at h
    split
    ·rename_i h4
     rw [if_pos h4] at h
     split
     ·exact (by decide:(ErrV.num 11).code≠0)
     ·rename_i h5
      rw [if_neg h5] at h
      exact absurd rfl h
    ·exact key _ (by assumption)
theorem zhl (n:Nat) (l:zg) (x:qu) (hB:LB n l) (hK:KeyB x.fields) (hl:x.fields.length<1000000):vn E 73 [.bx 0 0,.a (ji x)] 2 (hpF (lstH 1 l)) ⟨.tu [.i (oneF l x).1,.a (errA (oneF l x).2.1)],wi (lstH 1 l),lstH 2 (oneF l x).2.2++ww (lstH 1 l),3⟩:=by
 refine yx [.bx 0 0,.a (ji x)] (lstH 1 l) 2 (.tu [.i (oneF l x).1,.a (errA (oneF l x).2.1)]) (lstH 2 (oneF l x).2.2) 3 Tryz.func73 rfl rfl rfl rfl fun S F ρ=>?_
 unfold oneF
 by_cases h1:x.kind=1
 ·rw [if_pos h1]
  have hc:=zf5 n l x.id x.fields hB hK hl
  generalize qbe l x.id x.fields=r at hc
  apply qe []
  repeat' (first|apply And.intro|(intro h;try exact cDd)|exact⟨Tryz.call131⟩|(refine j8 hc ?_)|exact cSd|apply qc []|refine exr ?_|refine qi ?_)
 ·rw [if_neg h1]
  by_cases h2:x.kind=2
  ·rw [if_pos h2]
   have hc:=zhr n l x.id hB
   generalize delF l x.id=r at hc
   apply qe []
   repeat' (first|apply And.intro|(intro h;try exact cDd)|exact⟨Tryz.call132⟩|(refine j8 hc ?_)|exact cSd|apply qc []|refine exr ?_|refine qi ?_)
  ·rw [if_neg h2]
   have hc:=zhv n l x.id x.fields hB hK hl
   generalize insF l x.id x.fields=r at hc
   apply qe []
   repeat' (first|apply And.intro|(intro h;try exact cDd)|exact⟨Tryz.call133⟩|(refine j8 hc ?_)|exact cSd|apply qc []|refine exr ?_|refine qi ?_)
theorem q6q (n:Nat) (l:zg) (b:List qu) (st:List AObj) (hB:LB n l) (hn:n+40<900000) (hE:∀ x∈b,EdB x) (hl:b.length<1000000):qp E 27 [y5 l,jg b] st fun r st'=>r=doA (doF l b)∧st'=st:=by
 refine qrl [.a (y5 l),.a (jg b)] (zcl _) Tryz.func27 rfl rfl (fun _=>rfl) rfl fun S0=>?_
 have hck:=fun st=>qmg b st _ rfl hE (by omega)
 unfold doF
 cases he:eErr b with
 |num m=>
  rw [he] at hck
  rw [if_neg (by simp)]
  apply qe []
  repeat' (first|apply And.intro|(intro h;try exact cDd)|exact⟨Tryz.call71⟩|refine cpe hck ?_|exact cSd|apply qc []|refine exr ?_|refine qi ?_)
 |at' a m=>
  rw [he] at hck
  rw [if_neg (by simp)]
  apply qe []
  repeat' (first|apply And.intro|(intro h;try exact cDd)|exact⟨Tryz.call71⟩|refine cpe hck ?_|exact cSd|apply qc []|refine exr ?_|refine qi ?_)
 |no=>
  rw [he] at hck
  rw [if_pos rfl]
  obtain⟨hb1,hb40,hg⟩:=qck he
  have hcp:=zf0 l (by have:=hB.len;omega)
  apply qe []
  repeat' (first|apply And.intro|(intro h;try exact cDd)|exact⟨Tryz.call71⟩|refine cpe hck ?_|exact⟨Tryz.call72⟩|(refine j8 hcp ?_)|exact cSd|apply qc []|refine exr ?_|refine qi ?_)
  refine jf (X:=Nat×zg×List Int) (fun (k,q,ids)=>⟨[(8,.bx 0 0),(9,.tp 2),(21,.a (jg b)),(22,.i b.length),(23,.i k)],[(0,some (.cells 112 [.tp 1,.i q.next,.i q.many])),(1,some (.own 4 139 (q.ents.map entA))),(2,some (.tip 1 3 (ids.map fun x=>Iv x)))],3⟩)
   (fun (k,q,ids)=>k≤b.length∧LB (n+k) q∧ids.length≤k∧yg k (b.drop k) q ids=yg 0 b l []) (fun (k,q,ids)=>b.length - k) (0,l,[]) ⟨by omega,hB,by simp,rfl⟩ ?_ ?_
  ·skip
   repeat' (first|apply And.intro|(intro h;try exact cDd)|exact cSd|apply qc []|refine exr ?_|refine qi ?_)
   all_goals (simp;done)
  ·rintro⟨k,q,ids⟩ ⟨hk,hq,hil,hrun⟩
   by_cases hkn:k<b.length
   ·have hx:b[k]? = some b[k]:=List.getElem?_eq_getElem hkn
    have hxm:(b.map ji)[k]? = some (ji b[k]):=by rw [List.getElem?_map,hx];rfl
    have hxE:=hE b[k] (List.getElem_mem hkn)
    have hxf:=(qi2 (hg b[k] (List.getElem_mem hkn))).1
    rw [List.drop_eq_getElem_cons hkn,yg] at hrun
    have hidl:(ids.map fun x=>Iv x).length=ids.length:=by simp
    generalize b[k]=x at hx hxm hxE hxf hrun
    have hon:=zhl (n+k) q x hq hxE.keys (by omega)
    have hlb:=qpm hq (by omega) x
    have hcd:=fun h=>qov (l:=q) (x:=x) h
    generalize oneF q x=o at hon hlb hcd hrun
    obtain⟨id,e,q'⟩:=o
    dsimp only at hon hlb hcd hrun
    cases e with
    |no=>
     rw [if_pos rfl] at hrun
     by_cases h0:0<id
     ·rw [if_pos h0] at hrun
      apply qe []
      repeat' (first|apply And.intro|(intro h;try exact cDd)|(refine Exists.intro (k) ⟨by omega,_,hxm,?_⟩)|exact⟨Tryz.call73⟩|(refine j8 hon ?_)|(refine Exists.intro (k+1,q',ids++[id]) ⟨⟨by omega,hlb,by simp;omega,hrun⟩,by simp only;omega,?_⟩)|exact cSd|apply qc []|refine exr ?_|refine qi ?_)
      all_goals first|(simp;done)|(simp;omega)
     ·rw [if_neg h0] at hrun
      apply qe []
      repeat' (first|apply And.intro|(intro h;try exact cDd)|(refine Exists.intro (k) ⟨by omega,_,hxm,?_⟩)|exact⟨Tryz.call73⟩|(refine j8 hon ?_)|(refine Exists.intro (k+1,q',ids) ⟨⟨by omega,hlb,by first|omega|(simp only;omega),hrun⟩,by simp only;omega,?_⟩)|exact cSd|apply qc []|refine exr ?_|refine qi ?_)
      all_goals first|(simp;done)|(simp;omega)
    |num m=>
     rw [if_neg (by simp)] at hrun
     rw [← hrun]
     have hft:=fun st=>qq3 k (.num m) st (hcd (by simp))
     apply qe []
     repeat' (first|apply And.intro|(intro h;try exact cDd)|(refine Exists.intro (k) ⟨by omega,_,hxm,?_⟩)|exact⟨Tryz.call73⟩|(refine j8 hon ?_)|exact⟨Tryz.call74⟩|refine cpe hft ?_|exact cSd|apply qc []|refine exr ?_|refine qi ?_)
    |at' a m=>
     rw [if_neg (by simp)] at hrun
     rw [← hrun]
     have hft:=fun st=>qq3 k (.at' a m) st (hcd (by simp))
     apply qe []
     repeat' (first|apply And.intro|(intro h;try exact cDd)|(refine Exists.intro (k) ⟨by omega,_,hxm,?_⟩)|exact⟨Tryz.call73⟩|(refine j8 hon ?_)|exact⟨Tryz.call74⟩|refine cpe hft ?_|exact cSd|apply qc []|refine exr ?_|refine qi ?_)
   ·have hkn:k=b.length:=by omega
    subst hkn
    rw [List.drop_length,yg] at hrun
    rw [← hrun]
    apply qe []
    repeat' (first|apply And.intro|(intro h;try exact cDd)|exact cSd|apply qc []|refine exr ?_|refine qi ?_)
structure RunV where
 l:zg
 given:List (List Int)
 touched:List Int
def qct (b:List qu):List Int:=(b.filter fun x=>decide (x.kind≠3)).map fun x=>x.id
def qaz (r:RunV) (b:List qu):RunV:=⟨(doF r.l b).2.1,r.given++[(doF r.l b).2.2],r.touched++qct b⟩
def v7:List (List qu)→RunV→ErrV×RunV
 | [],r=>(.no,r)
 |b::q,r=>if (doF r.l b).1 = .no then v7 q (qaz r b) else (.at' r.given.length 10,r)
def wq (base:Bytes) (bs:List (List qu)):ErrV×RunV:=if jt base = .no then v7 bs ⟨ofF (itsE base),[],[]⟩ else (jt base,⟨ofF [],[],[]⟩)
@[reducible] def q0l (g : List (List Int)) : AV := .sl 1 (g.map qby) none
@[reducible] def runA (r : RunV) : AV := .pp [y5 r.l, q0l r.given, qby r.touched]
def q7g (r:ErrV×RunV):AV:=match r.1 with
 | .no=>.tu [runA r.2,errA .no]
 |e=>.tu [.v (.pointer none),errA e]
theorem qqf (g:List (List Int)):Pure (q0l g):=qco fun x hx=>by
 obtain⟨f,_,rfl⟩:=List.mem_map.1 hx
 intro y hy
 simp only [AV.cells,List.mem_cons,List.not_mem_nil,or_false] at hy
 rw [hy]
 exact qc5 f
theorem q7h (r:ErrV×RunV):Pure (q7g r):=by
 unfold q7g
 split
 ·exact kj (qvi fun x hx=>by
   simp only [List.mem_cons,List.not_mem_nil,or_false] at hx
   rcases hx with rfl|rfl|rfl
   ·exact qil _
   ·exact qqf _
   ·exact qc5 _) (vl _)
 ·exact kj (qs _) (vl _)
theorem qd9 {n m:Nat} {l:zg} (h:LB n l) (hm:n≤m) (hs:m<900000):LB m l:=by
 have h1:=h.len;have h2:=h.nx0;have h3:=h.nx1;have h4:=h.mn0;have h5:=h.mn1
 exact⟨hs,by omega,h2,by omega,by omega,by omega⟩
theorem qwk:∀ (b:List qu) (k n:Nat) (l:zg) (ids:List Int),LB n l→n+b.length<900000→LB (n+b.length) (yg k b l ids).2.1
 | [],k,n,l,ids,h,_=>h
 |x::r,k,n,l,ids,h,hs=>by
  simp only [List.length_cons] at hs ⊢
  unfold yg
  split
  ·have:=qwk r (k+1) (n+1) (oneF l x).2.2 (if 0<(oneF l x).1 then ids++[(oneF l x).1] else ids) (qpm h (by omega) x) (by omega)
   rw [show n+(r.length+1)=n+1+r.length by omega]
   exact this
  ·have h1:=h.len;have h2:=h.nx0;have h3:=h.nx1;have h4:=h.mn0;have h5:=h.mn1
   exact⟨by omega,by simp only;omega,h2,by simp only;omega,by simp only;omega,by simp only;omega⟩
theorem qst {n:Nat} {l:zg} (h:LB n l) (hs:n+40<900000) (b:List qu):LB (n+40) (doF l b).2.1:=by
 unfold doF
 split
 ·rename_i he
  obtain⟨h1,h2,_⟩:=qck he
  exact qd9 (qwk b 0 n l [] h (by omega)) (by omega) hs
 ·exact qd9 h (by omega) hs
theorem q91:∀ (its:List zv) (n:Nat) (l:zg),LB n l→n+its.length<900000→LB (n+its.length) (its.foldl qbz l)
 | [],n,l,h,_=>h
 |x::r,n,l,h,hs=>by
  simp only [List.length_cons] at hs ⊢
  rw [List.foldl_cons,show n+(r.length+1)=n+1+r.length by omega]
  refine q91 r (n+1) _ ?_ (by omega)
  have h1:=h.len;have h2:=h.nx0;have h3:=h.nx1;have h4:=h.mn0;have h5:=h.mn1
  unfold qbz
  split
  ·exact⟨by omega,by simp;omega,by simp only;omega,by simp only;omega,by simp only;omega,by simp only;omega⟩
  ·exact⟨by omega,by simp;omega,h2,by simp only;omega,by simp only;omega,by simp only;omega⟩
theorem qto (text:Bytes):LB 300000 (ofF (itsE text)):=by
 have h:=qjk text
 have:=q91 (itsE text) 0 ⟨[],1,0⟩ ⟨by omega,by simp,by simp,by simp,by simp,by simp⟩ (by omega)
 exact qd9 this (by omega) (by omega)
@[reducible] def runH (a : Nat) (r : RunV) : List (Nat × Option SR) := [(0, some (.cells 134 [.a (y5 r.l), .tp a, .tp (a + 1)])), (a, some (.tip 1 24 (r.given.map qby))), (a + 1, some (.tip 1 3 (r.touched.map fun x => Iv x)))]
def BB (b:List qu):Prop:=b.length<1000000∧∀ x∈b,EdB x
theorem zgp (n:Nat) (r:RunV) (b:List qu) (hB:LB n r.l) (hn:n+40<900000) (hg:r.given.length<1000000) (ht:r.touched.length<100000000) (hb:BB b) (hok:(doF r.l b).1 = .no):vn E 126 [.bx 0 0,.a (jg b)] 3 (hpF (runH 1 r)) ⟨.a (.v .nilIface),wi (runH 1 r),runH 3 (qaz r b)++ww (runH 1 r),5⟩:=by
 refine yx [.bx 0 0,.a (jg b)] (runH 1 r) 3 (.a (.v .nilIface)) (runH 3 (qaz r b)) 5 Tryz.func126 rfl rfl rfl rfl fun S F ρ=>?_
 have hdo:=fun st=>q6q n r.l b st hB hn hb.2 hb.1
 unfold qaz
 generalize doF r.l b=d at hdo hok
 obtain⟨e,l',ids⟩:=d
 simp only at hok
 subst hok
 have hgl:(r.given.map qby).length=r.given.length:=by simp
 have hbl:=hb.1
 apply qe []
 repeat' (first|apply And.intro|(intro h;try exact cDd)|exact⟨Tryz.call27⟩|refine cpe hdo ?_|exact cSd|apply qc []|refine exr ?_|refine qi ?_)
 refine jf (X:=Nat) (fun k=>⟨[(0,.bx 0 0),(45,.a (jg b)),(46,.i b.length),(47,.i k)],[(0,some (.cells 134 [.a (y5 l'),.tp 3,.tp 4])),(3,some (.tip 1 24 ((r.given++[ids]).map qby))),(4,some (.tip 1 3 ((r.touched++qct (b.take k)).map fun x=>Iv x)))],5⟩)
  (fun k=>k≤b.length) (fun k=>b.length - k) 0 (by omega) ?_ ?_
 ·skip
  repeat' (first|apply And.intro|(intro h;try exact cDd)|exact cSd|apply qc []|refine exr ?_|refine qi ?_)
  all_goals (simp [qct];done)
 ·rintro k hk
  by_cases hkn:k<b.length
  ·have hx:b[k]? = some b[k]:=List.getElem?_eq_getElem hkn
   have hxm:(b.map ji)[k]? = some (ji b[k]):=by rw [List.getElem?_map,hx];rfl
   have htk:b.take (k+1)=b.take k++[b[k]]:=by rw [List.take_add_one,hx];rfl
   have htl:(qct (b.take k)).length≤k:=by
    unfold qct
    rw [List.length_map]
    exact Nat.le_trans (List.length_filter_le _ _) (by simp;omega)
   generalize b[k]=x at hx hxm htk
   by_cases h3:x.kind=3
   ·have e:qct (b.take (k+1))=qct (b.take k):=by rw [htk];simp [qct,h3]
    apply qe []
    repeat' (first|apply And.intro|(intro h;try exact cDd)|(refine Exists.intro (k) ⟨by omega,_,hxm,?_⟩)|(refine Exists.intro (k+1) ⟨by omega,by omega,?_⟩)|exact cSd|apply qc []|refine exr ?_|refine qi ?_)
    all_goals (rw [e];done)
   ·have e:qct (b.take (k+1))=qct (b.take k)++[x.id]:=by rw [htk];simp [qct,h3]
    apply qe []
    repeat' (first|apply And.intro|(intro h;try exact cDd)|(refine Exists.intro (k) ⟨by omega,_,hxm,?_⟩)|(refine Exists.intro (k+1) ⟨by omega,by omega,?_⟩)|exact cSd|apply qc []|refine exr ?_|refine qi ?_)
    all_goals first|(rw [e];simp;done)|(simp;omega)
  ·have hkn:k=b.length:=by omega
   subst hkn
   rw [List.take_length]
   apply qe []
   repeat' (first|apply And.intro|(intro h;try exact cDd)|exact cSd|apply qc []|refine exr ?_|refine qi ?_)
theorem zd6 (n:Nat) (r:RunV) (b:List qu) (hB:LB n r.l) (hn:n+40<900000) (hg:r.given.length<1000000) (hb:BB b) (hok:(doF r.l b).1≠.no):vn E 126 [.bx 0 0,.a (jg b)] 3 (hpF (runH 1 r)) ⟨.a (errA (.at' r.given.length 10)),wi (runH 1 r),runH 3 r++ww (runH 1 r),5⟩:=by
 refine yx [.bx 0 0,.a (jg b)] (runH 1 r) 3 (.a (errA (.at' r.given.length 10))) (runH 3 r) 5 Tryz.func126 rfl rfl rfl rfl fun S F ρ=>?_
 have hdo:=fun st=>q6q n r.l b st hB hn hb.2 hb.1
 have hgl:(r.given.map qby).length=r.given.length:=by simp
 generalize doF r.l b=d at hdo hok
 obtain⟨e,l',ids⟩:=d
 simp only at hok
 cases e with
 |no=>exact absurd rfl hok
 |num m=>
  apply qe []
  repeat' (first|apply And.intro|(intro h;try exact cDd)|exact⟨Tryz.call27⟩|refine cpe hdo ?_|exact cSd|apply qc []|refine exr ?_|refine qi ?_)
  all_goals (rw [hgl];rfl)
 |at' a m=>
  apply qe []
  repeat' (first|apply And.intro|(intro h;try exact cDd)|exact⟨Tryz.call27⟩|refine cpe hdo ?_|exact cSd|apply qc []|refine exr ?_|refine qi ?_)
  all_goals (rw [hgl];rfl)
theorem zgo (base:Bytes) (bs:List (List qu)) (st:List AObj) (hl:base.length<1000000) (hn:bs.length≤14000) (hb:∀ b∈bs,BB b∧b.length≤5000):qp E 67 [Sv base,qfb bs] st fun r st'=>r=q7g (wq base bs)∧st'=st:=by
 refine qrl [.s base,.a (qfb bs)] (q7h _) Tryz.func67 rfl rfl (fun _=>rfl) rfl fun S0=>?_
 have hof:=fun st=>q0w base st hl
 have hlb:=qto base
 unfold wq
 generalize itsE base=its at hof hlb
 cases he:jt base with
 |num m=>
  rw [he] at hof
  rw [if_neg (by simp)]
  apply qe [22]
  repeat' (first|apply And.intro|(intro h;try exact cDd)|exact⟨Tryz.call87⟩|refine cpe hof ?_|exact cSd|apply qc [22]|refine exr ?_|refine qi ?_)
 |at' a m=>
  rw [he] at hof
  rw [if_neg (by simp)]
  apply qe [22]
  repeat' (first|apply And.intro|(intro h;try exact cDd)|exact⟨Tryz.call87⟩|refine cpe hof ?_|exact cSd|apply qc [22]|refine exr ?_|refine qi ?_)
 |no=>
  rw [he] at hof
  rw [if_pos rfl]
  apply qe [22]
  repeat' (first|apply And.intro|(intro h;try exact cDd)|exact⟨Tryz.call87⟩|refine cpe hof ?_|exact cSd|apply qc [22]|refine exr ?_|refine qi ?_)
  refine jf (X:=Nat×RunV) (fun (k,r)=>⟨[(8,.bx 0 0),(23,.a (qfb bs)),(24,.i bs.length),(25,.i k)],[(0,some (.cells 134 [.a (y5 r.l),.tp 1,.tp 2])),(1,some (.tip 1 24 (r.given.map qby))),(2,some (.tip 1 3 (r.touched.map fun x=>Iv x)))],3⟩)
   (fun (k,r)=>k≤bs.length∧LB (300000+40 * k) r.l∧r.given.length=k∧r.touched.length≤5000 * k∧v7 (bs.drop k) r=v7 bs ⟨ofF its,[],[]⟩) (fun (k,r)=>bs.length - k) (0,⟨ofF its,[],[]⟩) ⟨by omega,hlb,rfl,by simp,rfl⟩ ?_ ?_
  ·skip
   repeat' (first|apply And.intro|(intro h;try exact cDd)|exact cSd|apply qc []|refine exr ?_|refine qi ?_)
   all_goals (simp;done)
  ·rintro⟨k,r⟩ ⟨hk,hq,hgl,htl,hrun⟩
   by_cases hkn:k<bs.length
   ·have hx:bs[k]? = some bs[k]:=List.getElem?_eq_getElem hkn
    have hxm:(bs.map jg)[k]? = some (jg bs[k]):=by rw [List.getElem?_map,hx];rfl
    obtain⟨hbb,hb5⟩:=hb bs[k] (List.getElem_mem hkn)
    rw [List.drop_eq_getElem_cons hkn,v7] at hrun
    generalize bs[k]=b at hx hxm hbb hb5 hrun
    have hlb2:=qst hq (by omega) b
    by_cases hok:(doF r.l b).1 = .no
    ·rw [if_pos hok] at hrun
     have htk:=zgp (300000+40 * k) r b hq (by omega) (by omega) (by omega) hbb hok
     have hgl2:(qaz r b).given.length=k+1:=by simp [qaz,hgl]
     have htl2:(qaz r b).touched.length≤5000 * (k+1):=by
      have:(qct b).length≤b.length:=by
       unfold qct
       rw [List.length_map]
       exact List.length_filter_le _ _
      simp only [qaz,List.length_append]
      omega
     have hlb3:LB (300000+40 * (k+1)) (qaz r b).l:=qd9 hlb2 (by omega) (by omega)
     generalize qaz r b=r2 at htk hrun hgl2 htl2 hlb3
     apply qe []
     repeat' (first|apply And.intro|(intro h;try exact cDd)|(refine Exists.intro (k) ⟨by omega,_,hxm,?_⟩)|exact⟨Tryz.call126⟩|(refine j8 htk ?_)|(refine Exists.intro (k+1,r2) ⟨⟨by omega,hlb3,hgl2,htl2,hrun⟩,by simp only;omega,?_⟩)|exact cSd|apply qc []|refine exr ?_|refine qi ?_)
    ·rw [if_neg hok] at hrun
     rw [← hrun]
     have htk:=zd6 (300000+40 * k) r b hq (by omega) (by omega) hbb hok
     apply qe []
     repeat' (first|apply And.intro|(intro h;try exact cDd)|(refine Exists.intro (k) ⟨by omega,_,hxm,?_⟩)|exact⟨Tryz.call126⟩|(refine j8 htk ?_)|exact cSd|apply qc []|refine exr ?_|refine qi ?_)
   ·have hkn:k=bs.length:=by omega
    subst hkn
    rw [List.drop_length,v7] at hrun
    rw [← hrun]
    apply qe []
    repeat' (first|apply And.intro|(intro h;try exact cDd)|exact cSd|apply qc []|refine exr ?_|refine qi ?_)
structure BkB (b:wa):Prop where
 base:b.base.length<1000000
 len:b.batches.length≤14000
 bat:∀ x∈b.batches,BB x∧x.length≤5000
theorem qxb (b:List qu):9≤(recE b).length:=by
 unfold recE recF qhg
 simp [ze]
 omega
theorem qt0:∀ r:List (List qu),9 * r.length≤(wc r).length
 | []=>by simp [wc]
 |b::r=>by
  have h1:=qt0 r
  have h2:=qxb b
  rw [qb2]
  simp only [List.length_append,List.length_cons]
  omega
theorem qme {text:Bytes} {b:wa} (h:qbc text b):BkB b:=by
 have h1:=congrArg List.length h.split
 have h2:=h.len
 have h3:=qt0 b.batches
 simp only [List.length_append,y9] at h1
 refine⟨by omega,by omega,fun x hx=>?_⟩
 obtain⟨g1,g2,_⟩:=qck (h.good x hx).ok
 exact⟨⟨by omega,(h.good x hx).B⟩,by omega⟩
def qlk (b:wa) (n:Int):ErrV×RunV:=if n<0∨(b.batches.length:Int)<n then (.num 1,⟨ofF [],[],[]⟩) else wq b.base (b.batches.take n.toNat)
theorem zaj (b:wa) (n:Int) (st:List AObj) (hB:BkB b):qp E 23 [qcg b,Iv n] st fun r st'=>r=qon (qlk b n).1 (qlk b n).2.l∧st'=st:=by
 refine zl [.a (qcg b),.i n] (qlc _ _) Tryz.func23 rfl rfl (fun _=>rfl) rfl fun S0=>?_
 have hbl:=hB.len
 have hml:(b.batches.map jg).length=b.batches.length:=by simp
 unfold qlk
 by_cases hn:n<0∨(b.batches.length:Int)<n
 ·rw [if_pos hn]
  apply qe []
  repeat' (first|apply And.intro|(intro h;try exact cDd)|exact cSd|apply qc []|refine exr ?_|refine qi ?_)
 ·rw [if_neg hn]
  obtain⟨k,rfl⟩:∃ k:Nat,n=(k:Int):=⟨n.toNat,by omega⟩
  rw [Int.toNat_natCast]
  have hp:=fun st=>zgo b.base (b.batches.take k) st hB.base (by simp;omega) (fun x hx=>hB.bat x (List.mem_of_mem_take hx))
  unfold qfb at hp
  rw [List.map_take] at hp
  generalize wq b.base (b.batches.take k)=p at hp
  obtain⟨e,r⟩:=p
  cases e with
  |no=>
   apply qe []
   repeat' (first|apply And.intro|(intro h;try exact cDd)|exact⟨Tryz.call67⟩|refine cpe hp ?_|exact cSd|apply qc []|refine exr ?_|refine qi ?_)
  |num m=>
   apply qe []
   repeat' (first|apply And.intro|(intro h;try exact cDd)|exact⟨Tryz.call67⟩|refine cpe hp ?_|exact cSd|apply qc []|refine exr ?_|refine qi ?_)
  |at' a m=>
   apply qe []
   repeat' (first|apply And.intro|(intro h;try exact cDd)|exact⟨Tryz.call67⟩|refine cpe hp ?_|exact cSd|apply qc []|refine exr ?_|refine qi ?_)
theorem ziv (b:wa) (st:List AObj) (hB:BkB b):qp E 24 [qcg b] st fun r st'=>r=qon (wq b.base b.batches).1 (wq b.base b.batches).2.l∧st'=st:=by
 refine zl [.a (qcg b)] (qlc _ _) Tryz.func24 rfl rfl (fun _=>rfl) rfl fun S0=>?_
 have hml:(b.batches.map jg).length=b.batches.length:=by simp
 have e:qlk b (((b.batches.map jg).length:Nat):Int)=wq b.base b.batches:=by
  unfold qlk
  rw [hml,if_neg (by omega),Int.toNat_natCast,List.take_length]
 have hp:=fun st=>zaj b (((b.batches.map jg).length:Nat):Int) st hB
 rw [e] at hp
 generalize wq b.base b.batches=p at hp
 obtain⟨er,r⟩:=p
 cases er with
 |no=>
  apply qe []
  repeat' (first|apply And.intro|(intro h;try exact cDd)|exact⟨Tryz.call23⟩|refine cpe hp ?_|exact cSd|apply qc []|refine exr ?_|refine qi ?_)
 |num m=>
  apply qe []
  repeat' (first|apply And.intro|(intro h;try exact cDd)|exact⟨Tryz.call23⟩|refine cpe hp ?_|exact cSd|apply qc []|refine exr ?_|refine qi ?_)
 |at' a m=>
  apply qe []
  repeat' (first|apply And.intro|(intro h;try exact cDd)|exact⟨Tryz.call23⟩|refine cpe hp ?_|exact cSd|apply qc []|refine exr ?_|refine qi ?_)
def kh (text:Bytes):ErrV×wa×zg:=if (jv text).1 = .no then (if (wq (jv text).2.base (jv text).2.batches).1 = .no then (.no,(jv text).2,(wq (jv text).2.base (jv text).2.batches).2.l) else ((wq (jv text).2.base (jv text).2.batches).1,qai,ofF [])) else ((jv text).1,qai,ofF [])
def qo2 (r:ErrV×wa×zg):AV:=match r.1 with
 | .no=>.tu [qcg r.2.1,y5 r.2.2,errA .no]
 |e=>.tu [qcg r.2.1,.v (.pointer none),errA e]
theorem q33 (r:ErrV×wa×zg):Pure (qo2 r):=by
 unfold qo2
 split
 ·exact qag (qgf _) (qil _) (vl _)
 ·exact qag (qgf _) (qs _) (vl _)
theorem q5j (text:Bytes) (st:List AObj) (hl:text.length<1000000):qp E 12 [Sv text] st fun r st'=>r=qo2 (kh text)∧st'=st:=by
 refine zl [.s text] (q33 _) Tryz.func12 rfl rfl (fun _=>rfl) rfl fun S0=>?_
 have hbr:=fun st=>q4m text st hl
 have hbk:(jv text).1 = .no→BkB (jv text).2:=fun h=>qme (qjc (text:=text) (b:=(jv text).2) (by rw [← h]))
 unfold kh
 generalize jv text=q at hbr hbk
 obtain⟨e,b⟩:=q
 cases e with
 |num m=>
  rw [if_neg (by simp)]
  apply qe []
  repeat' (first|apply And.intro|(intro h;try exact cDd)|exact⟨Tryz.call19⟩|refine cpe hbr ?_|exact cSd|apply qc []|refine exr ?_|refine qi ?_)
 |at' a m=>
  rw [if_neg (by simp)]
  apply qe []
  repeat' (first|apply And.intro|(intro h;try exact cDd)|exact⟨Tryz.call19⟩|refine cpe hbr ?_|exact cSd|apply qc []|refine exr ?_|refine qi ?_)
 |no=>
  rw [if_pos rfl]
  have hof:=fun st=>ziv b st (hbk rfl)
  dsimp only
  generalize wq b.base b.batches=p at hof
  obtain⟨e,r⟩:=p
  cases e with
  |no=>
   rw [if_pos rfl]
   apply qe []
   repeat' (first|apply And.intro|(intro h;try exact cDd)|exact⟨Tryz.call19⟩|refine cpe hbr ?_|exact⟨Tryz.call24⟩|refine cpe hof ?_|exact cSd|apply qc []|refine exr ?_|refine qi ?_)
  |num m=>
   rw [if_neg (by simp)]
   apply qe []
   repeat' (first|apply And.intro|(intro h;try exact cDd)|exact⟨Tryz.call19⟩|refine cpe hbr ?_|exact⟨Tryz.call24⟩|refine cpe hof ?_|exact cSd|apply qc []|refine exr ?_|refine qi ?_)
  |at' a m=>
   rw [if_neg (by simp)]
   apply qe []
   repeat' (first|apply And.intro|(intro h;try exact cDd)|exact⟨Tryz.call19⟩|refine cpe hbr ?_|exact⟨Tryz.call24⟩|refine cpe hof ?_|exact cSd|apply qc []|refine exr ?_|refine qi ?_)
end Go.Proofs.YtmoklbacdkmkaaaGreatDoor
namespace Go.Pl
open Go Go.Proofs
def cntF (es:List EntV):Nat:=es.countP fun e=>decide (0<e.id)
theorem qn6 (es:List EntV) (e:EntV):cntF (es++[e])=cntF es+if 0<e.id then 1 else 0:=by
 unfold cntF
 rw [List.countP_append]
 by_cases h:0<e.id <;> simp [h]
theorem zfe (es:List EntV):cntF es≤es.length:=List.countP_le_length
end Go.Pl
namespace Go.Proofs.YtmoklbacdkmkaaaGreatDoor
open Go Go.Av Go.RowKit Go.Proofs Go.Pl
theorem qjr {a b c d:AV} (h1:Pure a) (h2:Pure b) (h3:Pure c) (h4:Pure d):Pure (.tu [a,b,c,d]):=qdi fun z hz=>by
 simp only [List.mem_cons,List.not_mem_nil,or_false] at hz
 rcases hz with rfl|rfl|rfl|rfl
 ·exact h1
 ·exact h2
 ·exact h3
 ·exact h4
@[reducible] def qe5 (es : List EntV) : AV := .sl 4 (es.map entA) none
@[reducible] def vp (l : zg) : AV := .ag [qe5 l.ents, Iv l.next]
theorem q6t (es:List EntV):Pure (qe5 es):=qco fun x hx=>by
 obtain⟨f,_,rfl⟩:=List.mem_map.1 hx
 exact qsz f
theorem yo (l:zg):Pure (vp l):=yz fun y hy=>by
 simp only [AV.cells,List.mem_cons,List.not_mem_nil,or_false] at hy
 rcases hy with rfl|rfl
 ·exact q6t _
 ·exact qs _
def ofR (text:Bytes):zg:=if jt text = .no then ofF (itsE text) else⟨[],0,0⟩
theorem qqq {text:Bytes} (h:jt text = .no):qb3 text = .tu [js (itsE text),Iv (-9),Iv 0]:=by
 unfold qb3 itsE
 unfold jt at h
 split
 ·rename_i hb
  rw [if_pos hb] at h
  simp at h
 ·rename_i hb
  rw [if_neg hb] at h
  rcases hp:(jz text).1 with _ | ⟨a,n⟩
  ·rfl
  ·rw [hp] at h
   simp at h
theorem zas (text:Bytes) (st:List AObj) (hl:text.length<1000000):qp E 82 [Sv text] st fun r st'=>r = .tu [vp (ofR text),Iv (jt text).pos,Iv (jt text).code]∧st'=st:=by
 refine zl [.s text] (qag (yo _) (qs _) (qs _)) Tryz.func82 rfl rfl (fun _=>rfl) rfl fun S0=>?_
 unfold ofR
 by_cases hno:jt text = .no
 ·have hp:=fun st=>qju text st hl
  rw [qqq hno] at hp
  have hil:=qjk text
  rw [hno,if_pos rfl]
  generalize itsE text=its at hp hil
  have hmi:(its.map z6).length=its.length:=by simp
  apply qe []
  repeat' (first|apply And.intro|(intro h;try exact cDd)|exact⟨Tryz.call63⟩|refine cpe hp ?_|exact cSd|apply qc []|refine exr ?_|refine qi ?_)
  refine jf (X:=Nat×zg) (fun (k,l)=>⟨[(2,.bx 0 0),(5,.a (js its)),(6,.i (-9)),(8,.bx 1 0),(9,.i k)],[(0,some (.cells 35 [.a zm,.i 0])),(1,some (.cells 35 [.tp 2,.i l.next])),(2,some (.tip 4 162 (l.ents.map entA)))],3⟩)
   (fun (k,l)=>k≤its.length∧l.ents.length=k∧(1≤l.next∧l.next≤k+1)∧(its.drop k).foldl qbz l=ofF its) (fun (k,l)=>its.length - k) (0,⟨[],1,0⟩) ⟨by omega,rfl,⟨by decide,by decide⟩,rfl⟩ ?_ ?_
  ·skip
   repeat' (first|apply And.intro|(intro h;try exact cDd)|exact cSd|apply qc []|refine exr ?_|refine qi ?_)
   all_goals (simp;done)
  ·rintro⟨k,l⟩ ⟨hk,hlk,hnx,hrun⟩
   by_cases hkn:k<its.length
   ·have hx:its[k]? = some its[k]:=List.getElem?_eq_getElem hkn
    have hxm:(its.map z6)[k]? = some (z6 its[k]):=by rw [List.getElem?_map,hx];rfl
    rw [List.drop_eq_getElem_cons hkn,List.foldl_cons] at hrun
    have hml:(l.ents.map entA).length=l.ents.length:=by simp
    generalize its[k]=x at hx hxm hrun
    by_cases hk3:x.kind=3
    ·have e:qbz l x=⟨l.ents++[⟨x,l.next⟩],l.next+1,l.many+1⟩:=if_pos hk3
     rw [e] at hrun
     apply qe []
     repeat' (first|apply And.intro|(intro h;try exact cDd)|(refine Exists.intro (k) ⟨by omega,_,hxm,?_⟩)|(refine Exists.intro (k+1,⟨l.ents++[⟨x,l.next⟩],l.next+1,l.many+1⟩) ⟨⟨by omega,by simp [hlk],by simp only;omega,hrun⟩,by simp only;omega,?_⟩)|exact cSd|apply qc []|refine exr ?_|refine qi ?_)
     all_goals (simp;done)
    ·have e:qbz l x=⟨l.ents++[⟨x,0⟩],l.next,l.many⟩:=if_neg hk3
     rw [e] at hrun
     apply qe []
     repeat' (first|apply And.intro|(intro h;try exact cDd)|(refine Exists.intro (k) ⟨by omega,_,hxm,?_⟩)|(refine Exists.intro (k+1,⟨l.ents++[⟨x,0⟩],l.next,l.many⟩) ⟨⟨by omega,by simp [hlk],by simp only;omega,hrun⟩,by simp only;omega,?_⟩)|exact cSd|apply qc []|refine exr ?_|refine qi ?_)
     all_goals (simp;done)
   ·have hkn:k=its.length:=by omega
    subst hkn
    rw [List.drop_length] at hrun
    have e:ofF its=l:=hrun.symm
    rw [e]
    apply qe []
    repeat' (first|apply And.intro|(intro h;try exact cDd)|exact cSd|apply qc []|refine exr ?_|refine qi ?_)
 ·obtain⟨its,p,n,hpa,hp,hn,hn0⟩:=qo1 text hl
  have hz:n≠0:=fun h=>hno (hn0.1 h)
  rw [if_neg hno,← hp,← hn]
  apply qe []
  repeat' (first|apply And.intro|(intro h;try exact cDd)|exact⟨Tryz.call63⟩|refine cpe hpa ?_|exact cSd|apply qc []|refine exr ?_|refine qi ?_)
theorem qle (l:zg) (id:Int) (st:List AObj) (hl:l.ents.length<1000000):qp E 234 [vp l,Iv id] st fun r st'=>r=Iv (atF l id)∧st'=st:=by
 refine zl [.a (vp l),.i id] (qs _) Tryz.func234 rfl rfl (fun _=>rfl) rfl fun S0=>?_
 unfold atF
 obtain⟨es,nx,mn⟩:=l
 dsimp only at hl ⊢
 have hmi:(es.map entA).length=es.length:=by simp
 apply qe []
 repeat' (first|apply And.intro|(intro h;try exact cDd)|exact cSd|apply qc []|refine exr ?_|refine qi ?_)
 refine jf (X:=Nat) (fun k=>⟨[(1,.i id),(2,.a (.pp [qe5 es,Iv nx])),(5,.i k)],[],0⟩) (fun k=>k≤es.length∧(0<id→qae id k (es.drop k)=qae id 0 es)) (fun k=>es.length - k) 0 ⟨by omega,by simp⟩ ?_ ?_
 ·skip
  repeat' (first|apply And.intro|(intro h;try exact cDd)|exact cSd|apply qc []|refine exr ?_|refine qi ?_)
  all_goals (simp;done)
 ·rintro k ⟨hk,hrun⟩
  by_cases h1:id<1
  ·rw [if_pos h1]
   apply qe []
   repeat' (first|apply And.intro|(intro h;try exact cDd)|exact cSd|apply qc []|refine exr ?_|refine qi ?_)
  ·rw [if_neg h1]
   have hrun:=hrun (by omega)
   by_cases hkn:k<es.length
   ·have hx:es[k]? = some es[k]:=List.getElem?_eq_getElem hkn
    have hxm:(es.map entA)[k]? = some (entA es[k]):=by rw [List.getElem?_map,hx];rfl
    rw [List.drop_eq_getElem_cons hkn,qae] at hrun
    generalize es[k]=e at hx hxm hrun
    by_cases hid:e.id=id
    ·rw [if_pos hid] at hrun
     rw [← hrun]
     apply qe []
     repeat' (first|apply And.intro|(intro h;try exact cDd)|(refine Exists.intro (k) ⟨by omega,_,hxm,?_⟩)|exact cSd|apply qc []|refine exr ?_|refine qi ?_)
    ·rw [if_neg hid] at hrun
     apply qe []
     repeat' (first|apply And.intro|(intro h;try exact cDd)|(refine Exists.intro (k) ⟨by omega,_,hxm,?_⟩)|(refine Exists.intro (k+1) ⟨⟨by omega,fun _=>hrun⟩,by omega,?_⟩)|exact cSd|apply qc []|refine exr ?_|refine qi ?_)
   ·have hkn:k=es.length:=by omega
    subst hkn
    rw [List.drop_length,qae] at hrun
    rw [← hrun]
    apply qe []
    repeat' (first|apply And.intro|(intro h;try exact cDd)|exact cSd|apply qc []|refine exr ?_|refine qi ?_)
theorem qt1 (l:zg) (st:List AObj) (hl:l.ents.length<1000000):qp E 91 [vp l] st fun r st'=>r=Iv (cntF l.ents)∧st'=st:=by
 refine zl [.a (vp l)] (qs _) Tryz.func91 rfl rfl (fun _=>rfl) rfl fun S0=>?_
 obtain⟨es,nx,mn⟩:=l
 dsimp only at hl ⊢
 have hmi:(es.map entA).length=es.length:=by simp
 apply qe []
 repeat' (first|apply And.intro|(intro h;try exact cDd)|exact cSd|apply qc []|refine exr ?_|refine qi ?_)
 refine jf (X:=Nat) (fun k=>⟨[(1,.a (.pp [qe5 es,Iv nx])),(3,.i (cntF (es.take k):Nat)),(4,.i k)],[],0⟩) (fun k=>k≤es.length) (fun k=>es.length - k) 0 (by omega) ?_ ?_
 ·skip
  repeat' (first|apply And.intro|(intro h;try exact cDd)|exact cSd|apply qc []|refine exr ?_|refine qi ?_)
  all_goals (simp [cntF];done)
 ·rintro k hk
  by_cases hkn:k<es.length
  ·have hx:es[k]? = some es[k]:=List.getElem?_eq_getElem hkn
   have hxm:(es.map entA)[k]? = some (entA es[k]):=by rw [List.getElem?_map,hx];rfl
   have htk:es.take (k+1)=es.take k++[es[k]]:=by rw [List.take_add_one,hx];rfl
   have hct:=qn6 (es.take k) es[k]
   have hcl:=zfe (es.take k)
   have hcl2:(es.take k).length≤k:=by simp;omega
   rw [← htk] at hct
   generalize es[k]=e at hx hxm hct
   by_cases h0:0<e.id
   ·rw [if_pos h0] at hct
    apply qe []
    repeat' (first|apply And.intro|(intro h;try exact cDd)|(refine Exists.intro (k) ⟨by omega,_,hxm,?_⟩)|(refine Exists.intro (k+1) ⟨by omega,by omega,?_⟩)|exact cSd|apply qc []|refine exr ?_|refine qi ?_)
    all_goals (simp [hct];done)
   ·rw [if_neg h0] at hct
    apply qe []
    repeat' (first|apply And.intro|(intro h;try exact cDd)|(refine Exists.intro (k) ⟨by omega,_,hxm,?_⟩)|(refine Exists.intro (k+1) ⟨by omega,by omega,?_⟩)|exact cSd|apply qc []|refine exr ?_|refine qi ?_)
    all_goals (simp [hct];done)
  ·have hkn:k=es.length:=by omega
   subst hkn
   rw [List.take_length]
   apply qe []
   repeat' (first|apply And.intro|(intro h;try exact cDd)|exact cSd|apply qc []|refine exr ?_|refine qi ?_)
theorem qqo (fs:List Fld) (st:List AObj) (h:qyg fs):qp E 235 [jw fs] st fun r st'=>r=z6 ⟨3,zq fs,fs⟩∧st'=st:=by
 refine zl [.a (jw fs)] (yz (qhh _)) Tryz.func235 rfl rfl (fun _=>rfl) rfl fun S0=>?_
 have h1:=fun st=>qxg fs st h
 apply qe []
 repeat' (first|apply And.intro|(intro h;try exact cDd)|exact⟨Tryz.call184⟩|refine cpe h1 ?_|exact cSd|apply qc []|refine exr ?_|refine qi ?_)
end Go.Proofs.YtmoklbacdkmkaaaGreatDoor
namespace Go.Pl
open Go Go.Proofs Go.Av
def dlF (i:Nat) (es:List EntV) (k:Nat):List EntV:=(es.take k).take i++(es.take k).drop (i+1)
theorem zhh {i:Nat} {es:List EntV} {k:Nat} {e:EntV} (h:es[k]? = some e):dlF i es (k+1)=dlF i es k++if k=i then [] else [e]:=by
 have hk:=lt_of_getElem? h
 have hl:(es.take k).length=k:=by simp;omega
 unfold dlF
 rw [List.take_add_one,h]
 simp only [Option.toList_some]
 rw [List.take_append,List.drop_append,hl]
 by_cases hki:k=i
 ·subst hki
  rw [if_pos rfl]
  have e1:(es.take k).drop (k+1)=[]:=List.drop_eq_nil_of_le (by omega)
  simp [e1]
 ·rw [if_neg hki]
  by_cases hlt:k<i
  ·have e1:(es.take k).drop (i+1)=[]:=List.drop_eq_nil_of_le (by omega)
   obtain⟨d,hd⟩:∃ d,i - k=d+1:=⟨i - k - 1,by omega⟩
   have hd2:i+1 - k=d+1+1:=by omega
   rw [e1,hd,hd2]
   simp
  ·have hd:i - k=0:=by omega
   have hd2:i+1 - k=0:=by omega
   rw [hd,hd2]
   simp
def inF (j:Nat) (x:EntV) (es:List EntV) (k:Nat):List EntV:=(es.take k).take j++if j≤k then x::(es.take k).drop j else []
theorem zhp {j:Nat} {x:EntV} {es:List EntV} {k:Nat} {e:EntV} (h:es[k]? = some e):inF j x es (k+1)=inF j x es k++e::if j=k+1 then [x] else []:=by
 have hk:=lt_of_getElem? h
 have hl:(es.take k).length=k:=by simp;omega
 unfold inF
 rw [List.take_add_one,h]
 simp only [Option.toList_some]
 rw [List.take_append,List.drop_append,hl]
 by_cases hjk:j=k+1
 ·subst hjk
  have e1:(es.take k).drop (k+1)=[]:=List.drop_eq_nil_of_le (by omega)
  have e2:k+1 - k=1:=by omega
  rw [if_pos (Nat.le_refl _),if_pos rfl,if_neg (by omega),e1,e2]
  simp
 ·rw [if_neg hjk]
  by_cases hlt:j≤k
  ·have hd:j - k=0:=by omega
   rw [if_pos (by omega),if_pos hlt,hd]
   simp
  ·obtain⟨d,hd⟩:∃ d,j - k=d+1:=⟨j - k - 1,by omega⟩
   rw [if_neg (by omega),if_neg hlt,hd]
   simp
end Go.Pl
namespace Go.Proofs.YtmoklbacdkmkaaaGreatDoor
open Go Go.Av Go.RowKit Go.Proofs Go.Pl
def rlR (l:zg) (e:ErrV):AV:=.tu [vp l,Iv e.pos,Iv e.code]
theorem zd3 (l:zg) (e:ErrV):Pure (rlR l e):=qag (yo _) (qs _) (qs _)
theorem qsn (fs:List Fld) (h:j7 fs≠.no):∃ p n,(j7 fs).pos=p∧(j7 fs).code=n∧n≠0:=⟨_,_,rfl,rfl,fun h'=>h ((qjd fs).1 h')⟩
theorem q3z (l:zg) (id:Int) (fs:List Fld) (st:List AObj) (hl:l.ents.length<1000000) (hK:KeyB fs) (hfl:fs.length<1000000):qp E 196 [vp l,Iv id,jw fs] st fun r st'=>r=rlR (qbe l id fs).2 (qbe l id fs).1∧st'=st:=by
 refine zl [.a (vp l),.i id,.a (jw fs)] (zd3 _ _) Tryz.func196 rfl rfl (fun _=>rfl) rfl fun S0=>?_
 have h1:=fun st=>qle l id st hl
 have hmi:(l.ents.map entA).length=l.ents.length:=by simp
 have h2:=fun st=>qjt fs st hK (by omega)
 unfold qbe rlR
 rcases qjb l id with h | ⟨i,e,h,he,hid,hid1⟩
 ·rw [h] at h1 ⊢
  rw [if_pos (by decide)]
  apply qe []
  repeat' (first|apply And.intro|(intro h;try exact cDd)|exact⟨Tryz.call234⟩|refine cpe h1 ?_|exact cSd|apply qc []|refine exr ?_|refine qi ?_)
 ·rw [h] at h1 ⊢
  rw [if_neg (by omega)]
  have hil:=lt_of_getElem? he
  by_cases hc:j7 fs = .no
  ·rw [hc] at h2
   obtain⟨_,g3,g4⟩:=qgh hc
   have h3:=fun st=>qqo fs st (qs8 g3 g4)
   rw [if_pos hc]
   unfold qpp qda
   rw [if_pos hc,Int.toNat_natCast,he]
   simp only
   have hx':∀ k e',l.ents[k]? = some e'→(l.ents.set i ⟨⟨3,zq fs,fs⟩,e.id⟩).take (k+1)=(l.ents.set i ⟨⟨3,zq fs,fs⟩,e.id⟩).take k++[if k=i then⟨⟨3,zq fs,fs⟩,e.id⟩ else e']:=fun k e' h=>by
    have hk:=lt_of_getElem? h
    rw [List.take_add_one]
    congr 1
    by_cases hki:k=i
    ·subst hki
     rw [if_pos rfl,List.getElem?_set_self hk]
     try rfl
    ·rw [if_neg hki,List.getElem?_set_ne (fun h=>hki h.symm),h]
     rfl
   have hsl:(l.ents.set i ⟨⟨3,zq fs,fs⟩,e.id⟩).length=l.ents.length:=by simp
   generalize l.ents.set i ⟨⟨3,zq fs,fs⟩,e.id⟩=es' at hx' hsl
   apply qe []
   repeat' (first|apply And.intro|(intro h;try exact cDd)|exact⟨Tryz.call234⟩|refine cpe h1 ?_|exact⟨Tryz.call224⟩|refine cpe h2 ?_|exact cSd|apply qc []|refine exr ?_|refine qi ?_)
   refine jf (X:=Nat) (fun k=>⟨[(2,.a (jw fs)),(3,.a (.pp [qe5 l.ents,Iv l.next])),(6,.bx 0 0),(9,.i i),(12,.bx 1 0),(13,.i k)],[(0,some (.cells 35 [.a zm,.i 0])),(1,some (.cells 35 [.tp 2,.i l.next])),(2,some (.tip 4 162 ((es'.take k).map entA)))],3⟩)
    (fun k=>k≤l.ents.length) (fun k=>l.ents.length - k) 0 (by omega) ?_ ?_
   ·skip
    repeat' (first|apply And.intro|(intro h;try exact cDd)|exact cSd|apply qc []|refine exr ?_|refine qi ?_)
    all_goals first|rfl|(simp;done)
   ·rintro k hk
    by_cases hkn:k<l.ents.length
    ·have hx:l.ents[k]? = some l.ents[k]:=List.getElem?_eq_getElem hkn
     have hxm:(l.ents.map entA)[k]? = some (entA l.ents[k]):=by rw [List.getElem?_map,hx];rfl
     have htk:=hx' k _ hx
     have htl:((es'.take k).map entA).length≤k:=by simp;omega
     by_cases hki:k=i
     ·have hee:l.ents[k]=e:=by
       have h1:=he
       rw [← hki,hx] at h1
       simpa using h1
      rw [hee] at hx hxm
      rw [if_pos hki] at htk
      apply qe []
      repeat' (first|apply And.intro|(intro h;try exact cDd)|(refine Exists.intro (k) ⟨by omega,_,hxm,?_⟩)|exact⟨Tryz.call235⟩|refine cpe h3 ?_|(refine Exists.intro (k+1) ⟨by omega,by omega,?_⟩)|exact absurd hki (by omega)|exact cSd|apply qc []|refine exr ?_|refine qi ?_)
      all_goals first|(rw [htk];simp;done)|omega|(simp;omega)
     ·rw [if_neg hki] at htk
      generalize l.ents[k]=e' at hx hxm htk
      apply qe []
      repeat' (first|apply And.intro|(intro h;try exact cDd)|(refine Exists.intro (k) ⟨by omega,_,hxm,?_⟩)|(refine Exists.intro (k+1) ⟨by omega,by omega,?_⟩)|exact absurd (by omega) hki|exact cSd|apply qc []|refine exr ?_|refine qi ?_)
      all_goals first|(rw [htk];simp;done)|omega|(simp;omega)
    ·have hkn:k=l.ents.length:=by omega
     subst hkn
     rw [List.take_of_length_le (by omega)]
     apply qe []
     repeat' (first|apply And.intro|(intro h;try exact cDd)|exact cSd|apply qc []|refine exr ?_|refine qi ?_)
  ·obtain⟨p,n,hp,hn,hn0⟩:=qsn fs hc
   rw [hp,hn] at h2
   rw [if_neg hc,hp,hn]
   apply qe []
   repeat' (first|apply And.intro|(intro h;try exact cDd)|exact⟨Tryz.call234⟩|refine cpe h1 ?_|exact⟨Tryz.call224⟩|refine cpe h2 ?_|exact cSd|apply qc []|refine exr ?_|refine qi ?_)
theorem q7m (l:zg) (id:Int) (st:List AObj) (hl:l.ents.length<1000000):qp E 197 [vp l,Iv id] st fun r st'=>r = .tu [vp (delF l id).2,Iv (delF l id).1.code]∧st'=st:=by
 refine zl [.a (vp l),.i id] (kj (yo _) (qs _)) Tryz.func197 rfl rfl (fun _=>rfl) rfl fun S0=>?_
 have h1:=fun st=>qle l id st hl
 have hmi:(l.ents.map entA).length=l.ents.length:=by simp
 unfold delF
 rcases qjb l id with h | ⟨i,e,h,he,hid,hid1⟩
 ·rw [h] at h1 ⊢
  rw [if_pos (by decide)]
  apply qe []
  repeat' (first|apply And.intro|(intro h;try exact cDd)|exact⟨Tryz.call234⟩|refine cpe h1 ?_|exact cSd|apply qc []|refine exr ?_|refine qi ?_)
 ·rw [h] at h1 ⊢
  rw [if_neg (by omega),Int.toNat_natCast]
  unfold delL
  simp only
  have hend:dlF i l.ents l.ents.length=l.ents.take i++l.ents.drop (i+1):=by unfold dlF;rw [List.take_length]
  have hll:∀ k,k≤l.ents.length→((dlF i l.ents k).map entA).length≤k:=fun k hk=>by
   simp [dlF]
   omega
  rw [← hend]
  apply qe []
  repeat' (first|apply And.intro|(intro h;try exact cDd)|exact⟨Tryz.call234⟩|refine cpe h1 ?_|exact cSd|apply qc []|refine exr ?_|refine qi ?_)
  refine jf (X:=Nat) (fun k=>⟨[(2,.a (.pp [qe5 l.ents,Iv l.next])),(4,.bx 0 0),(6,.i i),(7,.bx 1 0),(8,.i k)],[(0,some (.cells 35 [.a zm,.i 0])),(1,some (.cells 35 [.tp 2,.i l.next])),(2,some (.tip 4 162 ((dlF i l.ents k).map entA)))],3⟩)
   (fun k=>k≤l.ents.length) (fun k=>l.ents.length - k) 0 (by omega) ?_ ?_
  ·skip
   repeat' (first|apply And.intro|(intro h;try exact cDd)|exact cSd|apply qc []|refine exr ?_|refine qi ?_)
   all_goals first|rfl|(simp [dlF];done)|(simp [dlF];rfl)
  ·rintro k hk
   by_cases hkn:k<l.ents.length
   ·have hx:l.ents[k]? = some l.ents[k]:=List.getElem?_eq_getElem hkn
    have hxm:(l.ents.map entA)[k]? = some (entA l.ents[k]):=by rw [List.getElem?_map,hx];rfl
    have htk:=zhh (i:=i) hx
    have htl:=hll k hk
    rw [List.length_map] at htl
    generalize l.ents[k]=e' at hx hxm htk
    by_cases hki:k=i
    ·rw [if_pos hki,List.append_nil] at htk
     apply qe []
     repeat' (first|apply And.intro|(intro h;try exact cDd)|(refine Exists.intro (k+1) ⟨by omega,by omega,?_⟩)|exact absurd hki (by omega)|exact cSd|apply qc []|refine exr ?_|refine qi ?_)
     all_goals first|(rw [htk];done)|omega|(simp;omega)
    ·rw [if_neg hki] at htk
     apply qe []
     repeat' (first|apply And.intro|(intro h;try exact cDd)|(refine Exists.intro (k) ⟨by omega,_,hxm,?_⟩)|(refine Exists.intro (k+1) ⟨by omega,by omega,?_⟩)|exact absurd (by omega) hki|exact cSd|apply qc []|refine exr ?_|refine qi ?_)
     all_goals first|(rw [htk];simp;done)|omega|(simp;omega)
   ·have hkn:k=l.ents.length:=by omega
    subst hkn
    apply qe []
    repeat' (first|apply And.intro|(intro h;try exact cDd)|exact cSd|apply qc []|refine exr ?_|refine qi ?_)
def rlR4 (l:zg) (n:Int) (e:ErrV):AV:=.tu [vp l,Iv n,Iv e.pos,Iv e.code]
theorem zaw (l:zg) (n:Int) (e:ErrV):Pure (rlR4 l n e):=qjr (yo _) (qs _) (qs _) (qs _)
set_option maxHeartbeats 4000000 in
theorem q7n (l:zg) (id:Int) (fs:List Fld) (st:List AObj) (hl:l.ents.length<1000000) (hn:1≤l.next∧l.next<1000000) (hM:l.many=cntF l.ents) (hK:KeyB fs) (hfl:fs.length<1000000):qp E 198 [vp l,Iv id,jw fs] st fun r st'=>r=rlR4 (insF l id fs).2.2 (insF l id fs).1 (insF l id fs).2.1∧st'=st:=by
 refine zl [.a (vp l),.i id,.a (jw fs)] (zaw _ _ _) Tryz.func198 rfl rfl (fun _=>rfl) rfl fun S0=>?_
 have h1:=fun st=>qle l id st hl
 have hmi:(l.ents.map entA).length=l.ents.length:=by simp
 have h2:=fun st=>qjt fs st hK (by omega)
 have h3:=fun st=>qt1 l st hl
 unfold insF rlR4
 rw [hM]
 rcases Decidable.em (atF l id<0∧id≠0) with hb|hb
 ·rw [if_pos hb]
  obtain⟨hb1,hb2⟩:=hb
  generalize atF l id=a at hb1 h1
  apply qe []
  repeat' (first|apply And.intro|(intro h;try exact cDd)|exact⟨Tryz.call234⟩|refine cpe h1 ?_|exact cSd|apply qc []|refine exr ?_|refine qi ?_)
 ·rw [if_neg hb]
  obtain⟨a,j,ha,hj,hjl,hor⟩:∃ (a:Int) (j:Nat),atF l id=a∧a+1=(j:Int)∧j≤l.ents.length∧(0≤a∨a = -1∧id=0):=by
   rcases qjb l id with h | ⟨i,e,h,he,_⟩
   ·exact⟨-1,0,h,rfl,by omega,.inr ⟨rfl,Decidable.not_not.1 fun h0=>hb ⟨by omega,h0⟩⟩⟩
   ·have:=lt_of_getElem? he
    exact⟨i,i+1,h,rfl,by omega,.inl (by omega)⟩
  rw [ha] at h1 hb ⊢
  rw [hj,Int.toNat_natCast]
  by_cases hc:j7 fs = .no
  ·rw [hc] at h2
   rw [if_pos hc]
   by_cases hm:400≤(cntF l.ents:Int)
   ·rw [if_pos hm]
    generalize cntF l.ents=m at h3 hm
    rcases hor with hor | ⟨hor,hor2⟩
    ·apply qe []
     repeat' (first|apply And.intro|(intro h;try exact cDd)|exact⟨Tryz.call234⟩|refine cpe h1 ?_|exact⟨Tryz.call224⟩|refine cpe h2 ?_|exact⟨Tryz.call91⟩|refine cpe h3 ?_|exact cSd|apply qc []|refine exr ?_|refine qi ?_)
    ·apply qe []
     repeat' (first|apply And.intro|(intro h;try exact cDd)|exact⟨Tryz.call234⟩|refine cpe h1 ?_|exact⟨Tryz.call224⟩|refine cpe h2 ?_|exact⟨Tryz.call91⟩|refine cpe h3 ?_|exact cSd|apply qc []|refine exr ?_|refine qi ?_)
   ·rw [if_neg hm]
    generalize cntF l.ents=m at h3 hm
    obtain⟨_,g3,g4⟩:=qgh hc
    have h4:=fun st=>qqo fs st (qs8 g3 g4)
    unfold insL qda
    rw [if_pos hc]
    simp only
    have hend:inF j ⟨⟨3,zq fs,fs⟩,l.next⟩ l.ents l.ents.length=l.ents.take j++⟨⟨3,zq fs,fs⟩,l.next⟩::l.ents.drop j:=by
     unfold inF
     rw [List.take_length,if_pos hjl]
    have hll:∀ k,k≤l.ents.length→((inF j ⟨⟨3,zq fs,fs⟩,l.next⟩ l.ents k).map entA).length≤k+1:=fun k hk=>by
     unfold inF
     split
     ·simp
      omega
     ·simp
      omega
    rw [← hend]
    have h0:0≤a→inF j ⟨⟨3,zq fs,fs⟩,l.next⟩ l.ents 0=[]:=fun h=>by
     unfold inF
     rw [if_neg (by omega)]
     simp
    have h00:a = -1→inF j ⟨⟨3,zq fs,fs⟩,l.next⟩ l.ents 0=[⟨⟨3,zq fs,fs⟩,l.next⟩]:=fun h=>by
     unfold inF
     rw [if_pos (by omega)]
     simp
    have hst:=fun k e'=>zhp (j:=j) (x:=⟨⟨3,zq fs,fs⟩,l.next⟩) (es:=l.ents) (k:=k) (e:=e')
    generalize inF j ⟨⟨3,zq fs,fs⟩,l.next⟩ l.ents=iF at hll h0 h00 hst
    rcases hor with hor | ⟨hor,hor2⟩
    ·have h0:=h0 hor
     clear h00
     apply qe []
     repeat' (first|apply And.intro|(intro h;try exact cDd)|exact⟨Tryz.call234⟩|refine cpe h1 ?_|exact⟨Tryz.call224⟩|refine cpe h2 ?_|exact⟨Tryz.call91⟩|refine cpe h3 ?_|exact⟨Tryz.call235⟩|refine cpe h4 ?_|exact cSd|apply qc []|refine exr ?_|refine qi ?_)
     refine jf (X:=Nat) (fun k=>⟨[(3,.a (.pp [qe5 l.ents,Iv l.next])),(6,.bx 0 0),(10,.i a),(13,.bx 1 0),(14,.bx 2 0),(15,.i k)],[(0,some (.cells 35 [.a zm,.i 0])),(1,some (.cells 35 [.tp 3,.i (l.next+1)])),(2,some (.cells 162 [.i 3,.s (zq fs),.a (jw fs),.i l.next])),(3,some (.tip 4 162 ((iF k).map entA)))],4⟩)
      (fun k=>k≤l.ents.length) (fun k=>l.ents.length - k) 0 (by omega) ?_ ?_
     ·skip
      repeat' (first|apply And.intro|(intro h;try exact cDd)|exact cSd|apply qc []|refine exr ?_|refine qi ?_)
      all_goals first|rfl|(simp [h0];done)|(simp [h0];rfl)
     ·rintro k hk
      by_cases hkn:k<l.ents.length
      ·have hx:l.ents[k]? = some l.ents[k]:=List.getElem?_eq_getElem hkn
       have hxm:(l.ents.map entA)[k]? = some (entA l.ents[k]):=by rw [List.getElem?_map,hx];rfl
       have htk:=hst k _ hx
       have htl:=hll k hk
       rw [List.length_map] at htl
       generalize l.ents[k]=e' at hx hxm htk
       by_cases hki:j=k+1
       ·rw [if_pos hki] at htk
        apply qe []
        repeat' (first|apply And.intro|(intro h;try exact cDd)|(refine Exists.intro (k) ⟨by omega,_,hxm,?_⟩)|(refine Exists.intro (k+1) ⟨by omega,by omega,?_⟩)|exact absurd hki (by omega)|exact cSd|apply qc []|refine exr ?_|refine qi ?_)
        all_goals first|(rw [htk];simp;done)|omega|(simp;omega)
       ·rw [if_neg hki] at htk
        apply qe []
        repeat' (first|apply And.intro|(intro h;try exact cDd)|(refine Exists.intro (k) ⟨by omega,_,hxm,?_⟩)|(refine Exists.intro (k+1) ⟨by omega,by omega,?_⟩)|exact absurd (by omega) hki|exact cSd|apply qc []|refine exr ?_|refine qi ?_)
        all_goals first|(rw [htk];simp;done)|omega|(simp;omega)
      ·have hkn:k=l.ents.length:=by omega
       subst hkn
       apply qe []
       repeat' (first|apply And.intro|(intro h;try exact cDd)|exact cSd|apply qc []|refine exr ?_|refine qi ?_)
    ·have hz:=h00 hor
     clear h00 h0
     subst hor
     apply qe []
     repeat' (first|apply And.intro|(intro h;try exact cDd)|exact⟨Tryz.call234⟩|refine cpe h1 ?_|exact⟨Tryz.call224⟩|refine cpe h2 ?_|exact⟨Tryz.call91⟩|refine cpe h3 ?_|exact⟨Tryz.call235⟩|refine cpe h4 ?_|exact cSd|apply qc []|refine exr ?_|refine qi ?_)
     refine jf (X:=Nat) (fun k=>⟨[(3,.a (.pp [qe5 l.ents,Iv l.next])),(6,.bx 0 0),(10,.i (-1)),(13,.bx 1 0),(14,.bx 2 0),(15,.i k)],[(0,some (.cells 35 [.a zm,.i 0])),(1,some (.cells 35 [.tp 3,.i (l.next+1)])),(2,some (.cells 162 [.i 3,.s (zq fs),.a (jw fs),.i l.next])),(3,some (.tip 4 162 ((iF k).map entA)))],4⟩)
      (fun k=>k≤l.ents.length) (fun k=>l.ents.length - k) 0 (by omega) ?_ ?_
     ·skip
      repeat' (first|apply And.intro|(intro h;try exact cDd)|exact cSd|apply qc []|refine exr ?_|refine qi ?_)
      all_goals first|rfl|(simp [hz];done)|(simp [hz];rfl)
     ·rintro k hk
      by_cases hkn:k<l.ents.length
      ·have hx:l.ents[k]? = some l.ents[k]:=List.getElem?_eq_getElem hkn
       have hxm:(l.ents.map entA)[k]? = some (entA l.ents[k]):=by rw [List.getElem?_map,hx];rfl
       have htk:=hst k _ hx
       have htl:=hll k hk
       rw [List.length_map] at htl
       generalize l.ents[k]=e' at hx hxm htk
       rw [if_neg (by omega)] at htk
       apply qe []
       repeat' (first|apply And.intro|(intro h;try exact cDd)|(refine Exists.intro (k) ⟨by omega,_,hxm,?_⟩)|(refine Exists.intro (k+1) ⟨by omega,by omega,?_⟩)|exact cSd|apply qc []|refine exr ?_|refine qi ?_)
       all_goals first|(rw [htk];simp;done)|omega|(simp;omega)
      ·have hkn:k=l.ents.length:=by omega
       subst hkn
       apply qe []
       repeat' (first|apply And.intro|(intro h;try exact cDd)|exact cSd|apply qc []|refine exr ?_|refine qi ?_)
  ·obtain⟨p,n,hp,hn,hn0⟩:=qsn fs hc
   rw [hp,hn] at h2
   rw [if_neg hc,hp,hn]
   rcases hor with hor | ⟨hor,hor2⟩
   ·apply qe []
    repeat' (first|apply And.intro|(intro h;try exact cDd)|exact⟨Tryz.call234⟩|refine cpe h1 ?_|exact⟨Tryz.call224⟩|refine cpe h2 ?_|exact cSd|apply qc []|refine exr ?_|refine qi ?_)
   ·apply qe []
    repeat' (first|apply And.intro|(intro h;try exact cDd)|exact⟨Tryz.call234⟩|refine cpe h1 ?_|exact⟨Tryz.call224⟩|refine cpe h2 ?_|exact cSd|apply qc []|refine exr ?_|refine qi ?_)
end Go.Proofs.YtmoklbacdkmkaaaGreatDoor
namespace Go.Pl
open Go Go.Proofs Go.Av
def LM (l:zg):Prop:=l.many=cntF l.ents
theorem qgy (a b:List EntV):cntF (a++b)=cntF a+cntF b:=by simp [cntF]
theorem qke (e:EntV) (b:List EntV):cntF (e::b)=(if 0<e.id then 1 else 0)+cntF b:=by
 by_cases h:0<e.id <;> simp [cntF,h] <;> omega
theorem q81 {l:List EntV} {i:Nat} {e:EntV} (h:l[i]? = some e):l=l.take i++e::l.drop (i+1):=by
 obtain⟨hi,rfl⟩:=List.getElem?_eq_some_iff.1 h
 rw [← List.drop_eq_getElem_cons hi,List.take_append_drop]
theorem zd2 {l:zg} (h:LM l) (id:Int) (fs:List Fld):LM (qbe l id fs).2:=by
 unfold qbe
 split
 ·exact h
 ·split
  ·unfold qpp
   split
   ·rename_i e he
    unfold LM at h ⊢
    simp only
    rw [h]
    have h1:=q81 he
    have hi:=lt_of_getElem? he
    rw [List.set_eq_take_append_cons_drop,if_pos hi]
    conv=>lhs;rw [h1]
    rw [qgy,qgy,qke,qke]
   ·exact h
  ·exact h
theorem zfl {l:zg} (h:LM l) (id:Int):LM (delF l id).2:=by
 unfold delF
 split
 ·exact h
 ·rename_i hn
  rcases qjb l id with g | ⟨i,e,g,he,hid,hid1⟩
  ·exact absurd (by rw [g];decide) hn
  ·rw [g,Int.toNat_natCast]
   unfold LM delL at *
   simp only
   rw [h]
   have h1:=q81 he
   conv=>lhs;rw [h1]
   rw [qgy,qgy,qke,if_pos (by omega)]
   omega
theorem zfv {l:zg} (h:LM l) (hn:1≤l.next) (id:Int) (fs:List Fld):LM (insF l id fs).2.2:=by
 unfold insF
 split
 ·exact h
 ·split
  ·split
   ·exact h
   ·unfold LM insL at *
    simp only
    rw [h,qgy,qke,if_pos (by simp only;omega)]
    conv=>lhs;rw [← List.take_append_drop (atF l id+1).toNat l.ents]
    rw [qgy]
    omega
  ·exact h
theorem q1f:∀ (its:List zv) (l:zg),LM l→1≤l.next→LM (its.foldl qbz l)∧1≤(its.foldl qbz l).next
 | [],l,h,hn=>⟨h,hn⟩
 |x::r,l,h,hn=>by
  rw [List.foldl_cons]
  unfold qbz
  split
  ·refine q1f r _ ?_ (by simp only;omega)
   unfold LM at *
   simp only
   rw [qn6,if_pos (by simp only;omega),h]
   omega
  ·refine q1f r _ ?_ hn
   unfold LM at *
   simp only
   rw [qn6,if_neg (by simp),h]
   omega
theorem q90 (its:List zv):LM (ofF its):=(q1f its ⟨[],1,0⟩ (by simp [LM,cntF]) (by decide)).1
end Go.Pl
namespace Go.Proofs.YtmoklbacdkmkaaaGreatDoor
open Go Go.Av Go.RowKit Go.Proofs Go.Pl
theorem q5c {l:zg} (h:LM l) (hn:1≤l.next) (x:qu):LM (oneF l x).2.2:=by
 unfold oneF
 split
 ·exact zd2 h _ _
 ·split
  ·exact zfl h _
  ·exact zfv h hn _ _
theorem qwm:∀ (b:List qu) (k n:Nat) (l:zg) (ids:List Int),LM l→LB n l→n+b.length<900000→LM (yg k b l ids).2.1
 | [],k,n,l,ids,h,_,_=>h
 |x::r,k,n,l,ids,h,hB,hs=>by
  simp only [List.length_cons] at hs
  unfold yg
  split
  ·exact qwm r (k+1) (n+1) _ _ (q5c h hB.nx0 x) (qpm hB (by omega) x) (by omega)
  ·exact h
theorem q86 {n:Nat} {l:zg} (h:LM l) (hB:LB n l) (hs:n+40<900000) (b:List qu):LM (doF l b).2.1:=by
 unfold doF
 split
 ·rename_i he
  obtain⟨h1,h2,_⟩:=qck he
  exact qwm b 0 n l [] h hB (by omega)
 ·exact h
theorem q7o (n:Nat) (l:zg) (x:qu) (st:List AObj) (hB:LB n l) (hM:LM l) (hK:KeyB x.fields) (hl:x.fields.length<1000000):qp E 147 [vp l,ji x] st fun r st'=>r = .tu [vp (oneF l x).2.2,Iv (oneF l x).1,Iv (oneF l x).2.1.code]∧st'=st:=by
 refine zl [.a (vp l),.a (ji x)] (qag (yo _) (qs _) (qs _)) Tryz.func147 rfl rfl (fun _=>rfl) rfl fun S0=>?_
 have g1:=hB.len;have g2:=hB.nx0;have g3:=hB.nx1;have g4:=hB.small
 unfold oneF
 by_cases h1:x.kind=1
 ·rw [if_pos h1]
  have hc:=fun st=>q3z l x.id x.fields st (by omega) hK hl
  unfold rlR at hc
  generalize qbe l x.id x.fields=r at hc
  apply qe []
  repeat' (first|apply And.intro|(intro h;try exact cDd)|exact⟨Tryz.call196⟩|refine cpe hc ?_|exact cSd|apply qc []|refine exr ?_|refine qi ?_)
 ·rw [if_neg h1]
  by_cases h2:x.kind=2
  ·rw [if_pos h2]
   have hc:=fun st=>q7m l x.id st (by omega)
   generalize delF l x.id=r at hc
   apply qe []
   repeat' (first|apply And.intro|(intro h;try exact cDd)|exact⟨Tryz.call197⟩|refine cpe hc ?_|exact cSd|apply qc []|refine exr ?_|refine qi ?_)
  ·rw [if_neg h2]
   have hc:=fun st=>q7n l x.id x.fields st (by omega) ⟨by omega,by omega⟩ hM hK hl
   unfold rlR4 at hc
   generalize insF l x.id x.fields=r at hc
   apply qe []
   repeat' (first|apply And.intro|(intro h;try exact cDd)|exact⟨Tryz.call198⟩|refine cpe hc ?_|exact cSd|apply qc []|refine exr ?_|refine qi ?_)
def doR (l:zg) (r:ErrV×zg×List Int):AV:=if r.1 = .no then .tu [vp r.2.1,qby r.2.2,Iv (-9),Iv 0] else .tu [vp l,qby [],Iv r.1.pos,Iv r.1.code]
theorem zcn (l:zg) (r:ErrV×zg×List Int):Pure (doR l r):=by
 unfold doR
 split
 ·exact qjr (yo _) (qc5 _) (qs _) (qs _)
 ·exact qjr (yo _) (qc5 _) (qs _) (qs _)
theorem zao (n:Nat) (l:zg) (b:List qu) (st:List AObj) (hB:LB n l) (hM:LM l) (hn:n+40<900000) (hE:∀ x∈b,EdB x) (hl:b.length<1000000):qp E 83 [vp l,jg b] st fun r st'=>r=doR l (doF l b)∧st'=st:=by
 refine zl [.a (vp l),.a (jg b)] (zcn _ _) Tryz.func83 rfl rfl (fun _=>rfl) rfl fun S0=>?_
 have hck:=fun st=>qo0 b st hE (by omega)
 have hmi:(b.map ji).length=b.length:=by simp
 unfold doF
 by_cases he:eErr b = .no
 ·rw [he] at hck
  rw [if_pos he]
  obtain⟨hb1,hb40,hg⟩:=qck he
  apply qe []
  repeat' (first|apply And.intro|(intro h;try exact cDd)|exact⟨Tryz.call124⟩|refine cpe hck ?_|exact cSd|apply qc []|refine exr ?_|refine qi ?_)
  refine jf (X:=Nat×zg×List Int) (fun (k,q,ids)=>⟨[(1,.a (jg b)),(2,.a (.pp [qe5 l.ents,Iv l.next])),(4,.bx 0 0),(10,.bx 1 0),(11,.tp 2),(12,.i k)],[(0,some (.cells 35 [.a zm,.i 0])),(1,some (.cells 35 [.a (qe5 q.ents),.i q.next])),(2,some (.tip 1 3 (ids.map fun x=>Iv x)))],3⟩)
   (fun (k,q,ids)=>k≤b.length∧LB (n+k) q∧LM q∧ids.length≤k∧yg k (b.drop k) q ids=yg 0 b l []) (fun (k,q,ids)=>b.length - k) (0,l,[]) ⟨by omega,hB,hM,by simp,rfl⟩ ?_ ?_
  ·skip
   repeat' (first|apply And.intro|(intro h;try exact cDd)|exact cSd|apply qc []|refine exr ?_|refine qi ?_)
   all_goals first|rfl|(simp;done)
  ·rintro⟨k,q,ids⟩ ⟨hk,hq,hqm,hil,hrun⟩
   by_cases hkn:k<b.length
   ·have hx:b[k]? = some b[k]:=List.getElem?_eq_getElem hkn
    have hxm:(b.map ji)[k]? = some (ji b[k]):=by rw [List.getElem?_map,hx];rfl
    have hxE:=hE b[k] (List.getElem_mem hkn)
    have hxf:=(qi2 (hg b[k] (List.getElem_mem hkn))).1
    rw [List.drop_eq_getElem_cons hkn,yg] at hrun
    have hidl:(ids.map fun x=>Iv x).length=ids.length:=by simp
    generalize b[k]=x at hx hxm hxE hxf hrun
    have hon:=fun st=>q7o (n+k) q x st hq hqm hxE.keys (by omega)
    have hlb:=qpm hq (by omega) x
    have hlm:=q5c hqm hq.nx0 x
    have hcd:=fun h=>qov (l:=q) (x:=x) h
    generalize oneF q x=o at hon hlb hlm hcd hrun
    obtain⟨id,e,q'⟩:=o
    dsimp only at hon hlb hlm hcd hrun
    by_cases hen:e = .no
    ·subst hen
     rw [if_pos rfl] at hrun
     by_cases h0:0<id
     ·rw [if_pos h0] at hrun
      apply qe []
      repeat' (first|apply And.intro|(intro h;try exact cDd)|(refine Exists.intro (k) ⟨by omega,_,hxm,?_⟩)|exact⟨Tryz.call147⟩|refine cpe hon ?_|(refine Exists.intro (k+1,q',ids++[id]) ⟨⟨by omega,hlb,hlm,by simp;omega,hrun⟩,by simp only;omega,?_⟩)|exact cSd|apply qc []|refine exr ?_|refine qi ?_)
      all_goals first|(simp;done)|(simp;omega)
     ·rw [if_neg h0] at hrun
      apply qe []
      repeat' (first|apply And.intro|(intro h;try exact cDd)|(refine Exists.intro (k) ⟨by omega,_,hxm,?_⟩)|exact⟨Tryz.call147⟩|refine cpe hon ?_|(refine Exists.intro (k+1,q',ids) ⟨⟨by omega,hlb,hlm,by first|omega|(simp only;omega),hrun⟩,by simp only;omega,?_⟩)|exact cSd|apply qc []|refine exr ?_|refine qi ?_)
      all_goals first|(simp;done)|(simp;omega)
    ·rw [if_neg hen] at hrun
     rw [← hrun]
     have hcd:=hcd hen
     have hA:doR l (ErrV.at' (↑k) e.code,q,ids) = .tu [vp l,qby [],Iv k,Iv e.code]:=by
      unfold doR
      rw [if_neg (by simp)]
      try rfl
     rw [hA]
     generalize ErrV.code e=c at hon hcd
     apply qe []
     repeat' (first|apply And.intro|(intro h;try exact cDd)|(refine Exists.intro (k) ⟨by omega,_,hxm,?_⟩)|exact⟨Tryz.call147⟩|refine cpe hon ?_|exact cSd|apply qc []|refine exr ?_|refine qi ?_)
   ·have hkn:k=b.length:=by omega
    subst hkn
    rw [List.drop_length,yg] at hrun
    rw [← hrun]
    unfold doR
    rw [if_pos rfl]
    apply qe []
    repeat' (first|apply And.intro|(intro h;try exact cDd)|exact cSd|apply qc []|refine exr ?_|refine qi ?_)
 ·obtain⟨p,m,hp,hm,h0⟩:=zfo b
  have hz:m≠0:=fun h=>he (h0.1 h)
  rw [if_neg he]
  unfold doR
  simp only
  rw [if_neg he]
  rw [hp,hm] at hck ⊢
  apply qe []
  repeat' (first|apply And.intro|(intro h;try exact cDd)|exact⟨Tryz.call124⟩|refine cpe hck ?_|exact cSd|apply qc []|refine exr ?_|refine qi ?_)
end Go.Proofs.YtmoklbacdkmkaaaGreatDoor
namespace Go.Pl
open Go Go.Proofs Go.Proofs.YtmoklbacdkmkaaaGreatDoor
theorem qtv (x:zv) (r:List zv):vz (x::r)=x.raw++vz r:=by simp [vz]
theorem zds {its:List zv} {x:zv} (h:x∈its):x.raw.length≤(vz its).length:=by
 induction its with
 |nil=>simp at h
 |cons y r ih=>
  rw [qtv,List.length_append]
  rcases List.mem_cons.1 h with rfl|h
  ·omega
  ·have:=ih h
   omega
structure PR (m:Nat) (p:PSt):Prop where
 tot:(vz p.items).length+(zk p.block).length≤m
 fl:∀ x∈p.items,x.fields.length<900000
theorem qod {m:Nat} {p:PSt} (h:PR m p):PR m (jy p).2:=by
 unfold jy
 split
 ·exact h
 ·split
  ·exact h
  ·split
   ·exact h
   ·exact⟨h.tot,h.fl⟩
theorem q8z {m:Nat} {p:PSt} (h:PR m p) (hf:p.fields.length<900000):PR m (yf p):=by
 have ht:=h.tot
 unfold yf
 split
 ·exact⟨by simp only [zk,List.flatMap_nil,List.length_nil];omega,h.fl⟩
 ·refine⟨?_,fun x hx=>?_⟩
  ·simp only [qb1,qcy,List.length_append]
   simp only [zk,List.flatMap_nil,List.length_nil] at ht ⊢
   omega
  ·simp only [List.mem_append,List.mem_singleton] at hx
   rcases hx with hx|rfl
   ·exact h.fl x hx
   ·exact hf
theorem qu7 {m n:Nat} {p:PSt} (h:PR m p) (hB:PB n p) (hs:n+1<900000):PR m (endP p).2:=by
 unfold endP
 split
 ·exact h
 ·have:=(qhu hB hs).fields
  exact q8z (qod h) (by omega)
theorem q78 {m n:Nat} {p:PSt} {no:Int} {text:Bytes} {ended:Bool} {kind:Int} (h:PR m p) (hB:PB n p) (hs:n+1<900000):PR m (jr p no text ended kind).2:=by
 unfold jr
 split
 ·split
  ·exact h
  ·split
   ·exact⟨h.tot,h.fl⟩
   ·exact qod ⟨h.tot,h.fl⟩
 ·split
  ·exact qu7 h hB hs
  ·exact qod h
theorem yi (a b:List Bytes):zk (a++b)=zk a++zk b:=by simp [zk]
theorem zeg {m n:Nat} {p:PSt} {no:Int} {text:Bytes} {ended:Bool} (h:PR m p) (hB:PB n p) (hs:n+1<900000):PR (m+text.length+1) (wr p no text ended).2:=by
 have more:∀ {q:PSt},PR m q→PR (m+text.length+1) q:=fun h=>⟨by have:=h.tot;omega,h.fl⟩
 have h2:PR m (jr p no text ended (qz text)).2:=q78 h hB hs
 have ht:=h2.tot
 unfold wr
 split
 ·exact more h
 ·split
  ·exact more h
  ·split
   ·refine⟨?_,fun x hx=>?_⟩
    ·simp only [qb1,qcy,List.length_append,List.length_cons,List.length_nil]
     omega
    ·simp only [List.mem_append,List.mem_singleton] at hx
     rcases hx with hx|rfl
     ·exact h2.fl x hx
     ·simp
   ·split
    ·refine⟨?_,h2.fl⟩
     simp only [kz,yi,List.length_append]
     simp only [zk,List.flatMap_cons,List.flatMap_nil,List.length_append,List.length_cons,List.length_nil] at ht ⊢
     omega
    ·refine⟨?_,h2.fl⟩
     simp only [yi,List.length_append]
     simp only [zk,List.flatMap_cons,List.flatMap_nil,List.length_append,List.length_cons,List.length_nil] at ht ⊢
     omega
theorem zgq:∀ (n:Nat) (rest:Bytes) (k m:Nat) (p:PSt),rest.length≤n→PB (4 * k) p→PR m p→k+rest.length≤60000→PR (m+2 * rest.length) (runL k (zr rest) p).2:=by
 intro n
 induction n with
 |zero=>
  intro rest k m p hr hB hR hk
  obtain rfl:rest=[]:=List.eq_nil_of_length_eq_zero (by omega)
  rw [v6,runL]
  exact qu7 hR hB (by omega)
 |succ n ih=>
  intro rest k m p hr hB hR hk
  by_cases hne:rest=[]
  ·subst hne
   rw [v6,runL]
   exact qu7 hR hB (by omega)
  ·have hu:=ko 10 rest
   have hpl:=km 10 rest
   have hr0:0<rest.length:=List.length_pos_iff.2 hne
   rw [wv hne]
   simp only [runL]
   have hB2:=qrt (no:=k) (text:=upto 10 rest) (ended:=decide (10∈rest)) hB (by omega) (by omega)
   have hR2:=zeg (no:=k) (text:=upto 10 rest) (ended:=decide (10∈rest)) hR hB (by omega)
   split
   ·exact⟨by have:=hR.tot;simp only;omega,hR.fl⟩
   ·have:=ih (past 10 rest) (k+1) _ _ (by omega) hB2 hR2 (by omega)
    exact⟨by have:=this.tot;omega,this.fl⟩
theorem zfx (text:Bytes):(vz (itsE text)).length≤120000∧∀ x∈itsE text,x.fields.length<900000:=by
 unfold itsE
 split
 ·simp [vz]
 ·have h:=zgq text.length text 0 0 p0 (Nat.le_refl _) q7d ⟨by simp [p0,vz,zk],by simp [p0]⟩ (by omega)
  unfold jz
  split
  ·simp [vz]
  ·have:=h.tot
   exact⟨by simp only;omega,h.fl⟩
def LI (l:zg):Prop:=∀ e∈l.ents,e.x.raw.length≤1000000∧e.x.fields.length<900000
theorem q92:∀ (its:List zv) (l:zg),LI l→(∀ x∈its,x.raw.length≤1000000∧x.fields.length<900000)→LI (its.foldl qbz l)
 | [],l,h,_=>h
 |x::r,l,h,hx=>by
  rw [List.foldl_cons]
  refine q92 r _ ?_ fun y hy=>hx y (by simp [hy])
  have h1:=hx x (by simp)
  unfold qbz
  split
  ·intro e he
   simp only [List.mem_append,List.mem_singleton] at he
   rcases he with he|rfl
   ·exact h e he
   ·exact h1
  ·intro e he
   simp only [List.mem_append,List.mem_singleton] at he
   rcases he with he|rfl
   ·exact h e he
   ·exact h1
theorem zh2 (text:Bytes):LI (ofF (itsE text)):=by
 obtain⟨h1,h2⟩:=zfx text
 refine q92 _ _ (by simp [LI]) fun x hx=>⟨?_,h2 x hx⟩
 have:=zds hx
 omega
theorem qw8 (fs:List Fld):(qda fs).raw.length≤1000000∧(qda fs).fields.length<900000:=by
 unfold qda
 split
 ·rename_i h
  obtain⟨_,g1,g2⟩:=qgh h
  have:=qfr fs g2
  exact⟨by simp only;omega,by simp only;omega⟩
 ·exact⟨by simp,by simp⟩
theorem zd1 {l:zg} (h:LI l) (id:Int) (fs:List Fld):LI (qbe l id fs).2:=by
 unfold qbe
 split
 ·exact h
 ·split
  ·unfold qpp
   split
   ·intro y hy
    rcases List.mem_or_eq_of_mem_set hy with hy|rfl
    ·exact h y hy
    ·exact qw8 fs
   ·exact h
  ·exact h
theorem zfk {l:zg} (h:LI l) (id:Int):LI (delF l id).2:=by
 unfold delF
 split
 ·exact h
 ·intro y hy
  simp only [delL,List.mem_append] at hy
  rcases hy with hy|hy
  ·exact h y (List.mem_of_mem_take hy)
  ·exact h y (List.mem_of_mem_drop hy)
theorem zfu {l:zg} (h:LI l) (id:Int) (fs:List Fld):LI (insF l id fs).2.2:=by
 unfold insF
 split
 ·exact h
 ·split
  ·split
   ·exact h
   ·intro y hy
    simp only [insL,List.mem_append,List.mem_cons] at hy
    rcases hy with hy|rfl|hy
    ·exact h y (List.mem_of_mem_take hy)
    ·exact qw8 fs
    ·exact h y (List.mem_of_mem_drop hy)
  ·exact h
theorem qse:∀ (its:List zv) (b:Bool),(∀ x∈its,x.raw.length≤1000000)→(vz (xv b its)).length≤1000001 * its.length
 | [],b,h=>by simp [xv,vz]
 |x::r,b,h=>by
  have ih:=qse r (decide (x.kind≠1)) fun y hy=>h y (by simp [hy])
  have hx:=h x (by simp)
  rw [xv,qb1,List.length_append]
  split
  ·rw [qtv,qcy]
   simp only [List.length_append,List.length_cons,List.length_nil]
   omega
  ·rw [qcy]
   simp only [List.length_cons]
   omega
theorem qne {n:Nat} {l:zg} (hB:LB n l) (h:LI l):(qiw l).length≤1000000000000:=by
 have h1:=qse (vf l) false fun x hx=>by
  obtain⟨e,he,rfl⟩:=List.mem_map.1 hx
  exact (h e he).1
 have h2:=hB.len
 have h3:=hB.small
 unfold qiw qbn
 have:(vf l).length=l.ents.length:=by simp [vf]
 omega
end Go.Pl
namespace Go.Proofs.YtmoklbacdkmkaaaGreatDoor
open Go Go.Av Go.RowKit Go.Proofs Go.Pl
theorem zgb {l:zg} (h:LI l) (x:qu):LI (oneF l x).2.2:=by
 unfold oneF
 split
 ·exact zd1 h _ _
 ·split
  ·exact zfk h _
  ·exact zfu h _ _
theorem qwl:∀ (b:List qu) (k:Nat) (l:zg) (ids:List Int),LI l→LI (yg k b l ids).2.1
 | [],k,l,ids,h=>h
 |x::r,k,l,ids,h=>by
  unfold yg
  split
  ·exact qwl r (k+1) _ _ (zgb h x)
  ·exact h
theorem zhi {l:zg} (h:LI l) (b:List qu):LI (doF l b).2.1:=by
 unfold doF
 split
 ·exact qwl b 0 l [] h
 ·exact h
theorem zfw {n:Nat} {l:zg} (hB:LB n l) (h:LI l):ItsB (vf l):=by
 have h1:=hB.len
 have h2:=hB.small
 refine⟨by simp [vf];omega,fun x hx=>?_⟩
 obtain⟨e,he,rfl⟩:=List.mem_map.1 hx
 have:=(h e he).2
 omega
theorem q3v (its:List zv) (st:List AObj) (hl:its.length<1000000000) (hr:(vz its).length≤1000000000000):qp E 94 [js its] st fun r st'=>r=Sv (vz its)∧st'=st:=by
 refine zl [.a (js its)] (qs _) Tryz.func94 rfl rfl (fun _=>rfl) rfl fun S0=>?_
 have hmi:(its.map z6).length=its.length:=by simp
 apply qe []
 repeat' (first|apply And.intro|(intro h;try exact cDd)|exact cSd|apply qc []|refine exr ?_|refine qi ?_)
 refine jf (X:=Nat) (fun k=>⟨[(0,.a (js its)),(3,.s (vz (its.take k))),(4,.i k)],[],0⟩) (fun k=>k≤its.length) (fun k=>its.length - k) 0 (by omega) ?_ ?_
 ·skip
  repeat' (first|apply And.intro|(intro h;try exact cDd)|exact cSd|apply qc []|refine exr ?_|refine qi ?_)
  all_goals (simp [vz];done)
 ·rintro k hk
  by_cases hkn:k<its.length
  ·have hx:its[k]? = some its[k]:=List.getElem?_eq_getElem hkn
   have hxm:(its.map z6)[k]? = some (z6 its[k]):=by rw [List.getElem?_map,hx];rfl
   have htk:its.take (k+1)=its.take k++[its[k]]:=by rw [List.take_add_one,hx];rfl
   have hrl:(vz (its.take k)).length+its[k].raw.length≤1000000000000:=by
    have h1:vz its=vz (its.take (k+1))++vz (its.drop (k+1)):=by rw [← qb1,List.take_append_drop]
    rw [h1,htk,qb1,qcy] at hr
    simp only [List.length_append] at hr
    omega
   generalize its[k]=x at hx hxm htk hrl
   apply qe []
   repeat' (first|apply And.intro|(intro h;try exact cDd)|(refine Exists.intro (k) ⟨by omega,_,hxm,?_⟩)|(refine Exists.intro (k+1) ⟨by omega,by omega,?_⟩)|exact cSd|apply qc []|refine exr ?_|refine qi ?_)
   all_goals first|(rw [htk,qb1,qcy];done)|omega
  ·have hkn:k=its.length:=by omega
   subst hkn
   rw [List.take_length]
   apply qe []
   repeat' (first|apply And.intro|(intro h;try exact cDd)|exact cSd|apply qc []|refine exr ?_|refine qi ?_)
theorem q1t (its:List zv) (st:List AObj) (hl:its.length≤1000000):qp E 95 [js its] st fun r st'=>r=js (qbn its)∧st'=st:=by
 refine zl [.a (js its)] (qaj _) Tryz.func95 rfl rfl (fun _=>rfl) rfl fun S0=>?_
 have hmi:(its.map z6).length=its.length:=by simp
 apply qe []
 repeat' (first|apply And.intro|(intro h;try exact cDd)|exact cSd|apply qc []|refine exr ?_|refine qi ?_)
 refine jf (X:=Nat×List zv) (fun (k,out)=>⟨[(0,.a (js its)),(3,.tp 0),(4,.i k)],[(0,some (.tip 3 137 (out.map z6)))],1⟩)
  (fun (k,out)=>k≤its.length∧out.length≤2 * k∧∃ prev,(prev=true↔∃ y,0<k∧its[k - 1]? = some y∧y.kind≠1)∧out++xv prev (its.drop k)=qbn its) (fun (k,out)=>its.length - k) (0,[]) ⟨by omega,by simp,false,by simp,rfl⟩ ?_ ?_
 ·skip
  repeat' (first|apply And.intro|(intro h;try exact cDd)|exact cSd|apply qc []|refine exr ?_|refine qi ?_)
  all_goals first|rfl|(simp;done)
 ·rintro⟨k,out⟩ ⟨hk,hol,prev,hpv,hrun⟩
  by_cases hkn:k<its.length
  ·have hx:its[k]? = some its[k]:=List.getElem?_eq_getElem hkn
   have hxm:(its.map z6)[k]? = some (z6 its[k]):=by rw [List.getElem?_map,hx];rfl
   rw [List.drop_eq_getElem_cons hkn,xv] at hrun
   generalize its[k]=x at hx hxm hrun
   have hml:(out.map z6).length=out.length:=by simp
   have hnext:(decide (x.kind≠1)=true↔∃ y,0<k+1∧its[k+1 - 1]? = some y∧y.kind≠1):=by
    rw [decide_eq_true_iff,Nat.add_sub_cancel,hx]
    constructor
    ·intro h
     exact⟨x,by omega,rfl,h⟩
    ·rintro⟨y,_,h1,h2⟩
     simp only [Option.some.injEq] at h1
     rw [h1]
     exact h2
   by_cases hk0:k=0
   ·have hp:¬ (prev=true):=fun h=>by
     obtain⟨_,h,_⟩:=hpv.1 h
     omega
    rw [if_neg (fun h=>hp h.1)] at hrun
    apply qe []
    repeat' (first|apply And.intro|(intro h;try exact cDd)|(refine Exists.intro (k) ⟨by omega,_,hxm,?_⟩)|(refine Exists.intro (k+1,out++[x]) ⟨⟨by omega,by simp;omega,_,hnext,by rw [← hrun];simp⟩,by simp only;omega,?_⟩)|exact cSd|apply qc []|refine exr ?_|refine qi ?_)
    all_goals first|(simp [SV.evs,SV.ev];done)|(simp [SV.evs];omega)
   ·obtain⟨y,hy⟩:∃ y,its[k - 1]? = some y:=⟨_,List.getElem?_eq_getElem (by omega:k - 1<its.length)⟩
    have hym:(its.map z6)[k - 1]? = some (z6 y):=by rw [List.getElem?_map,hy];rfl
    have hpy:(prev=true↔y.kind≠1):=by
     rw [hpv]
     constructor
     ·rintro⟨z,_,h1,h2⟩
      rw [hy] at h1
      simp only [Option.some.injEq] at h1
      rw [h1]
      exact h2
     ·exact fun h=>⟨y,by omega,hy,h⟩
    by_cases hb:x.kind≠1∧y.kind≠1
    ·rw [if_pos ⟨hpy.2 hb.2,hb.1⟩] at hrun
     obtain⟨hb1,hb2⟩:=hb
     apply qe []
     repeat' (first|apply And.intro|(intro h;try exact cDd)|(refine Exists.intro (k - 1) ⟨by omega,_,hym,?_⟩)|(refine Exists.intro (k) ⟨by omega,_,hxm,?_⟩)|(refine Exists.intro (k+1,out++[⟨1,[10],[]⟩,x]) ⟨⟨by omega,by simp;omega,_,hnext,by rw [← hrun];simp⟩,by simp only;omega,?_⟩)|exact cSd|apply qc []|refine exr ?_|refine qi ?_)
     all_goals first|(simp [SV.evs,SV.ev];done)|(simp [SV.evs];omega)
    ·rw [if_neg (fun h=>hb ⟨h.2,hpy.1 h.1⟩)] at hrun
     apply qe []
     repeat' (first|apply And.intro|(intro h;try exact cDd)|(refine Exists.intro (k - 1) ⟨by omega,_,hym,?_⟩)|(refine Exists.intro (k) ⟨by omega,_,hxm,?_⟩)|(refine Exists.intro (k+1,out++[x]) ⟨⟨by omega,by simp;omega,_,hnext,by rw [← hrun];simp⟩,by simp only;omega,?_⟩)|exact absurd ⟨by assumption,by assumption⟩ hb|exact cSd|apply qc []|refine exr ?_|refine qi ?_)
     all_goals first|(simp [SV.evs,SV.ev];done)|(simp [SV.evs];omega)
  ·have hkn:k=its.length:=by omega
   subst hkn
   rw [List.drop_length,xv,List.append_nil] at hrun
   rw [← hrun]
   apply qe []
   repeat' (first|apply And.intro|(intro h;try exact cDd)|exact cSd|apply qc []|refine exr ?_|refine qi ?_)
theorem qyc (its:List zv) (st:List AObj) (hl:its.length≤1000000) (hr:(vz (qbn its)).length≤1000000000000):qp E 54 [js its] st fun r st'=>r=Sv (vz (qbn its))∧st'=st:=by
 refine zl [.a (js its)] (qs _) Tryz.func54 rfl rfl (fun _=>rfl) rfl fun S0=>?_
 have h1:=fun st=>q1t its st hl
 have hal:=qnw false its
 have h2:=fun st=>q3v (qbn its) st (by unfold qbn;omega) hr
 apply qe []
 repeat' (first|apply And.intro|(intro h;try exact cDd)|exact⟨Tryz.call95⟩|refine cpe h1 ?_|exact⟨Tryz.call94⟩|refine cpe h2 ?_|exact cSd|apply qc []|refine exr ?_|refine qi ?_)
theorem q13 (l:zg) (st:List AObj) (hl:l.ents.length<1000000):qp E 55 [vp l] st fun r st'=>r=js (vf l)∧st'=st:=by
 refine zl [.a (vp l)] (qaj _) Tryz.func55 rfl rfl (fun _=>rfl) rfl fun S0=>?_
 have hmi:(l.ents.map entA).length=l.ents.length:=by simp
 have hil:(vf l).length=l.ents.length:=by simp [vf]
 apply qe []
 repeat' (first|apply And.intro|(intro h;try exact cDd)|exact cSd|apply qc []|refine exr ?_|refine qi ?_)
 refine jf (X:=Nat) (fun k=>⟨[(1,.a (.pp [qe5 l.ents,Iv l.next])),(3,.tp 0),(4,.i k)],[(0,some (.tip 3 137 (((vf l).take k).map z6)))],1⟩)
  (fun k=>k≤l.ents.length) (fun k=>l.ents.length - k) 0 (by omega) ?_ ?_
 ·skip
  repeat' (first|apply And.intro|(intro h;try exact cDd)|exact cSd|apply qc []|refine exr ?_|refine qi ?_)
  all_goals first|rfl|(simp;done)
 ·rintro k hk
  by_cases hkn:k<l.ents.length
  ·have hx:l.ents[k]? = some l.ents[k]:=List.getElem?_eq_getElem hkn
   have hxm:(l.ents.map entA)[k]? = some (entA l.ents[k]):=by rw [List.getElem?_map,hx];rfl
   have hxi:(vf l)[k]? = some l.ents[k].x:=by unfold vf;rw [List.getElem?_map,hx];rfl
   have htk:(vf l).take (k+1)=(vf l).take k++[l.ents[k].x]:=by rw [List.take_add_one,hxi];rfl
   have htl:(((vf l).take k).map z6).length≤k:=by simp;omega
   generalize l.ents[k]=e at hx hxm hxi htk
   apply qe []
   repeat' (first|apply And.intro|(intro h;try exact cDd)|(refine Exists.intro (k) ⟨by omega,_,hxm,?_⟩)|(refine Exists.intro (k+1) ⟨by omega,by omega,?_⟩)|exact cSd|apply qc []|refine exr ?_|refine qi ?_)
   all_goals first|(rw [htk];simp;done)|(simp [SV.evs];omega)
  ·have hkn:k=l.ents.length:=by omega
   subst hkn
   have e:(vf l).take l.ents.length=vf l:=List.take_of_length_le (by omega)
   rw [e]
   apply qe []
   repeat' (first|apply And.intro|(intro h;try exact cDd)|exact cSd|apply qc []|refine exr ?_|refine qi ?_)
theorem q31 (l:zg) (st:List AObj) (hl:l.ents.length<1000000) (hr:(qiw l).length≤1000000000000):qp E 17 [vp l] st fun r st'=>r=Sv (qiw l)∧st'=st:=by
 refine zl [.a (vp l)] (qs _) Tryz.func17 rfl rfl (fun _=>rfl) rfl fun S0=>?_
 have h1:=fun st=>q13 l st hl
 have h2:=fun st=>qyc (vf l) st (by simp [vf];omega) hr
 apply qe []
 repeat' (first|apply And.intro|(intro h;try exact cDd)|exact⟨Tryz.call55⟩|refine cpe h1 ?_|exact⟨Tryz.call54⟩|refine cpe h2 ?_|exact cSd|apply qc []|refine exr ?_|refine qi ?_)
end Go.Proofs.YtmoklbacdkmkaaaGreatDoor
