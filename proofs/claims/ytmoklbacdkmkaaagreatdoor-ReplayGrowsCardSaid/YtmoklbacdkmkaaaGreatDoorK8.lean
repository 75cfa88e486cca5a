/- Contracts and plain facts that the closing text leans on (part 8). No condition of their own beyond those that each states. -/
import Derived.Test.YtmoklbacdkmkaaaGreatDoorK7
import Derived.Lib.SliceRun
set_option maxRecDepth 100000
set_option linter.unusedVariables false
set_option linter.unusedSimpArgs false
namespace Go.Av
open Go Go.RowKit
theorem qjl {E:Env} {rd:Option Nat} {N:Nat} {ops:Array Oper} {K:AS→Prop} {s:AS} {rest:List Oper} {d:Option Tmp} {T:TypeId} {p:String} {af:Array Edge} {x:Operand} {t t' te:TypeId} {sz:Nat} {xs:List AV} {tip:Option Nat} (hx:qf N s x = .sl sz xs tip) (hu:E.P.underlying t=some (.slice te))
  (h1:xs=[]→AOps E rd N ops rest K (s.put d (Bv true))) (h2:AOps E rd N ops rest K (s.put d (Bv false))):AOps E rd N ops (⟨d,.binOp .eql t x (.const (.slice none 0 0)) t',T,p,af,none⟩::rest) K s:=by
 refine qx rfl (qw nofun fun B0 w0 G a w _ hI=>?_)
 have he:=hI.eval_of hx
 have key:∃ q n c,a.eval x = .slice q n c∧(q.isNone=true→xs=[]):=by
  generalize a.eval x=u at he
  cases he with
  |sl0=>exact⟨_,_,_,rfl,fun _=>rfl⟩
  |sl=>exact⟨_,_,_,rfl,fun h=>by simp at h⟩
 obtain⟨q,n,c,hv,hq0⟩:=key
 have hc:a.eval (.const (.slice none 0 0)) = .slice none 0 0:=rfl
 have hq:=Lib.run_eql_slice_nil (P:=E.P) w t te q n c 0 0 hu
 refine⟨_,w,G,.v (.bool q.isNone),s.st,?_,.refl G,hI.agree,.v _,?_⟩
 ·generalize a.eval = ρ at hv hc
  simp [execOp,hv,hc,eqGuard_at_slice,hq]
 ·cases hb:q.isNone with
  |true=>exact h1 (hq0 hb)
  |false=>exact h2
theorem qd0.len0 {c:AV} (h:qd0 c):∀ (G:Gh) (v:Value),Rel G c v→∃ b n cp,v = .slice b n cp∧n≤cp:=fun G v hv=>by
 obtain⟨base,rfl⟩:=h.val G v hv
 exact⟨_,_,_,rfl,Nat.le_refl _⟩
end Go.Av
namespace Go.Proofs.YtmoklbacdkmkaaaGreatDoor
open Go Go.Av Go.RowKit Go.Proofs Go.Pl
theorem q00 (fs:List Fld) (st:List AObj) (hl:fs.length<1000000):qn E 80 [kv fs] st fun r st'=>r=kv fs∧st'=st:=by
 refine q7 (qdk _) (qo Tryz.func80 rfl (Nat.le_of_ble_eq_true rfl) ?_)
 have hml:(fs.map fldA).length=fs.length:=by simp
 rw [List.append_nil]
 repeat' (first|(apply qbz (st:=st);(iterate 6 exact rfl))|(apply qjl;exact rfl;exact rfl;intro h0)|apply qk|apply qc|apply qd|apply qj|apply qe|(apply qa;exact rfl;apply cd_t;exact cRa)|(apply qa;exact rfl;apply cd_f;exact cRa)|apply qs|apply qr|(apply qid (b:=st.length) (xs:=[]) (ys:=fs.map fldA) (bytes:=32);(iterate 5 exact rfl);exact⟨⟨_,_,rfl,rfl,rfl,rfl,rfl⟩⟩;(focus (repeat' (first|assumption|exact qw2 _ _ _ _|exact qzf _ _ _ _ _ _ _|apply qos|apply qr2|(refine qag (T:=_) (ver:=_) (cs:=_) ?_)|exact wu|exact z8 rfl|apply jv|apply ka|omega|apply qba)));(exact qfk);(first|exact rfl|exact qb2 fun _=>rfl);((simp [maxLen];omega));((simp;omega));intro c' S' t1 g1 g2 g3 g4))
 ·exact ql rfl (wn (zb rfl) (fun G v h=>by
   rw [kv,h0]
   exact qbt h)) ⟨rfl,_,(List.append_nil st).symm⟩
 ·exact ql rfl (wn (zb rfl) (qkj g1)) ⟨rfl,qrh fun j hj=>(g2.same j (by omega) (Nat.lt_of_lt_of_le hj qfk)).trans (List.getElem?_append_left hj)⟩
theorem qz2 (es:List EntV) (st:List AObj) (hl:es.length<1000000):qn E 130 [.sl 4 (es.map entA) none] st fun r st'=>OwnR 4 139 (es.map entA) st (.v undef) r st':=by
 refine qo Tryz.func130 rfl (Nat.le_of_ble_eq_true rfl) ?_
 have hml:(es.map entA).length=es.length:=by simp
 rw [List.append_nil]
 by_cases he:es=[]
 ·subst he
  repeat' (first|(apply qbz (st:=st);(iterate 6 exact rfl))|(apply qjl;exact rfl;exact rfl;intro h0)|(apply qwb (c:=.os st.length 0 0 0 0);exact rfl;exact (qmj _ _ _).len0;exact fun _ _ h=>h;exact rfl;exact rfl;exact⟨⟨_,_,rfl,rfl,rfl,rfl,rfl⟩⟩)|apply qk|apply qc|apply qd|apply qj|apply qe|(apply qa;exact rfl;apply cd_t;exact cRa)|(apply qa;exact rfl;apply cd_f;exact cRa)|apply qs|apply qr)
  ·exact ql rfl (zb rfl) ⟨.inl ⟨rfl,qv2 none⟩,Nat.le_refl _,fun _ _ _=>rfl,fun o ho=>by
   have ho:(none:Option Nat)=some o:=ho
   simp at ho⟩
  ·exact ql rfl (zb rfl) ⟨.inl ⟨rfl,qmj _ _ _⟩,qfk,fun j hj _=>List.getElem?_append_left hj,fun o ho=>by
   have ho:(none:Option Nat)=some o:=ho
   simp at ho⟩
 ·have hne:es.map entA≠[]:=by simpa using he
  repeat' (first|(apply qbz (st:=st);(iterate 6 exact rfl))|(apply qjl;exact rfl;exact rfl;intro h0)|(refine qie (ys:=es.map entA) (bytes:=56) (qmj _ _ _).val (fun _ _ h=>h) rfl rfl ⟨⟨_,_,rfl,rfl,rfl,rfl,rfl⟩⟩ (qb2 fun _=>rfl) hne (by simp [maxLen];omega) (by simp;omega) fun cap pad q1 q2 q3 q4=>?_)|apply qk|apply qc|apply qd|apply qj|apply qe|(apply qa;exact rfl;apply cd_t;exact cRa)|(apply qa;exact rfl;apply cd_f;exact cRa)|apply qs|apply qr)
  ·exact absurd h0 hne
  ·refine ql rfl (zb rfl) ⟨.inr ⟨_,0,cap,pad,rfl,wu,q1,q2,q3,q4⟩,Nat.le_trans qfk qfk,fun j hj _=>?_,fun o ho=>?_⟩
   ·show ((st++[_])++[_])[j]? = _
    rw [List.getElem?_append_left (by simp;omega),List.getElem?_append_left hj]
   ·have ho':some (st++[AObj.cells 0 139 []]).length=some o:=ho
    simp only [Option.some.injEq] at ho'
    left
    rw [← ho']
    simp
end Go.Proofs.YtmoklbacdkmkaaaGreatDoor
namespace Go.Pl
open Go Go.Proofs
def qbm (id:Int):Nat→List EntV→Int
 | _,[]=> -1
 |k,e::r=>if e.id=id then (k:Int) else qbm id (k+1) r
def atF (l:zx) (id:Int):Int:=if id<1 then -1 else qbm id 0 l.ents
theorem qpu (id:Int):∀ (es:List EntV) (k:Nat),qbm id k es = -1∨∃ i e,qbm id k es=((k+i:Nat):Int)∧es[i]? = some e∧e.id=id
 | [],k=>.inl rfl
 |e::r,k=>by
  unfold qbm
  by_cases h:e.id=id
  ·rw [if_pos h]
   exact .inr ⟨0,e,by simp,rfl,h⟩
  ·rw [if_neg h]
   rcases qpu id r (k+1) with g | ⟨i,e',g1,g2,g3⟩
   ·exact .inl g
   ·exact .inr ⟨i+1,e',by rw [g1];congr 1;omega,by simpa using g2,g3⟩
theorem qv6 (l:zx) (id:Int):atF l id = -1∨∃ (i:Nat) (e:EntV),atF l id=(i:Int)∧l.ents[i]? = some e∧e.id=id∧1≤id:=by
 unfold atF
 by_cases h:id<1
 ·exact .inl (if_pos h)
 ·rw [if_neg h]
  rcases qpu id l.ents 0 with g | ⟨i,e,g1,g2,g3⟩
  ·exact .inl g
  ·exact .inr ⟨i,e,by rw [g1];congr 1;omega,g2,g3,by omega⟩
end Go.Pl
namespace Go.Proofs.YtmoklbacdkmkaaaGreatDoor
open Go Go.Av Go.RowKit Go.Proofs Go.Pl
theorem zau (e:EntV) (id:Int) (st:List AObj):qn E 128 [entA e,.pp [Iv id]] st fun r st'=>r=Bv (decide (e.id=id))∧st'=st:=by
 refine vc [.a (entA e),.a (.pp [Iv id])] (q6 _) Tryz.func128 rfl rfl (fun _=>rfl) rfl fun S0=>?_
 apply qh []
 repeat' (first|apply And.intro|(intro h;try exact cDd)|exact cSd|apply qb []|refine exr ?_|refine qm ?_)
@[reducible] def atFn (id : Int) : SV := .fn (.func 128) [] [.a (.pp [Iv id])]
@[reducible] def lstH (a : Nat) (l : zx) : List (Nat × Option SR) := [(0, some (.cells 112 [.tp a, .i l.next, .i l.many])), (a, some (.own 4 139 (l.ents.map entA)))]
theorem q5k (es:List EntV) (id:Int) (hl:es.length<1000000):ku E 127 [.tp 0,atFn id] 1 (hpF [(0,some (.own 4 139 (es.map entA)))]) ⟨.i (qbm id 0 es),vl [(0,some (.own 4 139 (es.map entA)))],[(0,some (.own 4 139 (es.map entA)))]++vw [(0,some (.own 4 139 (es.map entA)))],1⟩:=by
 refine xq [.tp 0,atFn id] [(0,some (.own 4 139 (es.map entA)))] 1 (.i (qbm id 0 es)) [(0,some (.own 4 139 (es.map entA)))] 1 Tryz.func127 rfl rfl rfl rfl fun S F ρ=>?_
 have hml:(es.map entA).length=es.length:=by simp
 apply qh []
 repeat' (first|apply And.intro|(intro h;try exact cDd)|exact cSd|apply qb []|refine exr ?_|refine qm ?_)
 refine yt (X:=Nat) (fun k=>⟨[(0,.tp 0),(1,atFn id),(7,.i es.length),(8,.i k)],[(0,some (.own 4 139 (es.map entA)))],1⟩) (fun k=>k≤es.length∧qbm id k (es.drop k)=qbm id 0 es) (fun k=>es.length - k) 0 ⟨by omega,by simp⟩ ?_ ?_
 ·skip
  repeat' (first|apply And.intro|(intro h;try exact cDd)|exact cSd|apply qb []|refine exr ?_|refine qm ?_)
  all_goals (simp;done)
 ·rintro k ⟨hk,hrun⟩
  by_cases hkn:k<es.length
  ·have hx:es[k]? = some es[k]:=List.getElem?_eq_getElem hkn
   have hxm:(es.map entA)[k]? = some (entA es[k]):=by rw [List.getElem?_map,hx];rfl
   rw [List.drop_eq_getElem_cons hkn,qbm] at hrun
   generalize es[k]=e at hx hxm hrun
   have h1:=fun st=>zau e id st
   by_cases hid:e.id=id
   ·rw [if_pos hid] at hrun
    rw [decide_eq_true hid] at h1
    rw [← hrun]
    apply qh []
    repeat' (first|apply And.intro|(intro h;try exact cDd)|(refine qnx (i:=k) rfl rfl rfl rfl rfl rfl (by omega) ?_)|(refine qux (i:=k) (j:=0) rfl rfl rfl rfl hxm rfl rfl ?_)|exact⟨Tryz.call128⟩|refine cpe h1 ?_|exact cSd|apply qb []|refine exr ?_|refine qm ?_)
   ·rw [if_neg hid] at hrun
    rw [decide_eq_false hid] at h1
    apply qh []
    repeat' (first|apply And.intro|(intro h;try exact cDd)|(refine qnx (i:=k) rfl rfl rfl rfl rfl rfl (by omega) ?_)|(refine qux (i:=k) (j:=0) rfl rfl rfl rfl hxm rfl rfl ?_)|exact⟨Tryz.call128⟩|refine cpe h1 ?_|(refine Exists.intro (k+1) ⟨⟨by omega,hrun⟩,by omega,?_⟩)|exact cSd|apply qb []|refine exr ?_|refine qm ?_)
  ·have hkn:k=es.length:=by omega
   subst hkn
   rw [List.drop_length,qbm] at hrun
   rw [← hrun]
   apply qh []
   repeat' (first|apply And.intro|(intro h;try exact cDd)|exact cSd|apply qb []|refine exr ?_|refine qm ?_)
theorem qrn (l:zx) (id:Int) (hl:l.ents.length<1000000):ku E 69 [.bx 0 0,.i id] 2 (hpF (lstH 1 l)) ⟨.i (atF l id),vl (lstH 1 l),lstH 1 l++vw (lstH 1 l),2⟩:=by
 refine xq [.bx 0 0,.i id] (lstH 1 l) 2 (.i (atF l id)) (lstH 1 l) 2 Tryz.func69 rfl rfl rfl rfl fun S F ρ=>?_
 unfold atF
 have h1:=q5k l.ents id hl
 by_cases h:id<1
 ·rw [if_pos h]
  apply qh []
  repeat' (first|apply And.intro|(intro h;try exact cDd)|exact cSd|apply qb []|refine exr ?_|refine qm ?_)
 ·rw [if_neg h]
  apply qh []
  repeat' (first|apply And.intro|(intro h;try exact cDd)|exact⟨Tryz.call127⟩|(refine jh h1 ?_)|exact cSd|apply qb []|refine exr ?_|refine qm ?_)
end Go.Proofs.YtmoklbacdkmkaaaGreatDoor
namespace Go.Pl
open Go Go.Proofs
def qrp (fs:List Fld):Bytes:=if kp fs = .no then jy fs else []
def qhy (fs:List Fld):j6:=if kp fs = .no then⟨3,jy fs,fs⟩ else⟨0,[],[]⟩
end Go.Pl
namespace Go.Proofs.YtmoklbacdkmkaaaGreatDoor
open Go Go.Av Go.RowKit Go.Proofs Go.Pl
theorem q2s (fs:List Fld) (st:List AObj) (hK:KeyB fs) (hl:fs.length<9223372036854775808):qn E 227 [kv fs] st fun r st'=>r = .tu [Sv (qrp fs),errA (kp fs)]∧st'=st:=by
 refine vc [.a (kv fs)] (va (q6 _) (vj _)) Tryz.func227 rfl rfl (fun _=>rfl) rfl fun S0=>?_
 unfold qrp
 cases he:kp fs with
 |no=>
  rw [if_pos rfl]
  have h1:=fun st=>qia fs st _ he hK hl
  obtain⟨_,h3,h4⟩:=qox he
  have h2:=fun st=>qpi fs st h3 h4
  apply qh []
  repeat' (first|apply And.intro|(intro h;try exact cDd)|exact⟨Tryz.call185⟩|refine cpe h1 ?_|exact⟨Tryz.call135⟩|refine cpe h2 ?_|exact cSd|apply qb []|refine exr ?_|refine qm ?_)
 |num n=>
  rw [if_neg (by simp)]
  have h1:=fun st=>qia fs st _ he hK hl
  apply qh []
  repeat' (first|apply And.intro|(intro h;try exact cDd)|exact⟨Tryz.call185⟩|refine cpe h1 ?_|exact cSd|apply qb []|refine exr ?_|refine qm ?_)
 |at' a n=>
  rw [if_neg (by simp)]
  have h1:=fun st=>qia fs st _ he hK hl
  apply qh []
  repeat' (first|apply And.intro|(intro h;try exact cDd)|exact⟨Tryz.call185⟩|refine cpe h1 ?_|exact cSd|apply qb []|refine exr ?_|refine qm ?_)
theorem qyh (fs:List Fld) (st:List AObj) (hK:KeyB fs) (hl:fs.length<1000000):qn E 186 [kv fs] st fun r st'=>r = .tu [yy (qhy fs),errA (kp fs)]∧st'=st:=by
 refine vc [.a (kv fs)] (va (qgo (qm1 _)) (vj _)) Tryz.func186 rfl rfl (fun _=>rfl) rfl fun S0=>?_
 have h1:=fun st=>q2s fs st hK (by omega)
 have h2:=fun st=>q00 fs st hl
 unfold qrp at h1
 unfold qhy
 cases he:kp fs with
 |no=>
  rw [he,if_pos rfl] at h1
  rw [if_pos rfl]
  apply qh []
  repeat' (first|apply And.intro|(intro h;try exact cDd)|exact⟨Tryz.call227⟩|refine cpe h1 ?_|exact⟨Tryz.call80⟩|refine cpe h2 ?_|exact cSd|apply qb []|refine exr ?_|refine qm ?_)
 |num n=>
  rw [he,if_neg (by simp)] at h1
  rw [if_neg (by simp)]
  apply qh []
  repeat' (first|apply And.intro|(intro h;try exact cDd)|exact⟨Tryz.call227⟩|refine cpe h1 ?_|exact cSd|apply qb []|refine exr ?_|refine qm ?_)
 |at' a n=>
  rw [he,if_neg (by simp)] at h1
  rw [if_neg (by simp)]
  apply qh []
  repeat' (first|apply And.intro|(intro h;try exact cDd)|exact⟨Tryz.call227⟩|refine cpe h1 ?_|exact cSd|apply qb []|refine exr ?_|refine qm ?_)
theorem qhw (es:List EntV):∀ x∈es.map entA,x.cells.length=4:=fun x hx=>by
 obtain⟨e,_,rfl⟩:=List.mem_map.1 hx
 rfl
theorem qc6 (es:List EntV):(flat (es.map entA)).length=es.length * 4:=by
 rw [z0 (qhw es),List.length_map]
theorem qga (a b:List EntV):flat ((a++b).map entA)=flat (a.map entA)++flat (b.map entA):=by rw [List.map_append,wv]
theorem qdj (A B xs:List AV) {off:Nat} (h:A.length=off):zu (A++B) off xs=A++xs++B.drop xs.length:=by
 unfold zu
 rw [← h,List.take_left,List.drop_append,List.drop_eq_nil_of_le (by omega)]
 simp
theorem qg1 {cs xs:List AV} {off:Nat} (h:off+xs.length≤cs.length):(zu cs off xs).length=cs.length:=by
 unfold zu
 simp
 omega
theorem zaf (es:List EntV) (i:Nat) (hi:i<es.length) (hl:es.length<1000000) (st:List AObj) (c:AV) (hc:OwnS st 4 139 (es.map entA) c):qn E 187 [c,Iv i,Iv ((i:Int)+1)] st fun r st'=>OwnR 4 139 ((es.take i++es.drop (i+1)).map entA) st c r st':=by
 have hml:(es.map entA).length=es.length:=by simp
 rcases hc with⟨h0,_⟩ | ⟨o,ver,cap,pad,rfl,e2,e3,e4,e5,e6⟩
 ·rw [h0] at hml
  simp at hml
  omega
 rw [hml] at e5 ⊢
 have hlt:=lt_of_getElem? e2
 have hfl:=qc6 es
 have hsplit:flat (es.map entA)++pad=flat ((es.take i).map entA)++(flat ((es.drop i).map entA)++pad):=by
  rw [← List.append_assoc,← qga,List.take_append_drop]
 have ht4:(flat ((es.take i).map entA)).length=i * 4:=by rw [qc6,List.length_take,Nat.min_eq_left (by omega)]
 have hd4:(flat ((es.drop (i+1)).map entA)).length=(es.length - (i+1)) * 4:=by rw [qc6,List.length_drop]
 obtain⟨B1,hB1⟩:∃ B1,(flat ((es.drop i).map entA)++pad).drop (flat ((es.drop (i+1)).map entA)).length=B1:=⟨_,rfl⟩
 have hsp:zu (flat (es.map entA)++pad) (i * 4) (flat ((es.drop (i+1)).map entA))=flat ((es.take i++es.drop (i+1)).map entA)++B1:=by
  rw [hsplit,qdj _ _ _ ht4,qga,hB1]
 have hsl:(flat ((es.take i++es.drop (i+1)).map entA)++B1).length=(cap+1) * 4:=by
  rw [← hsp,qg1 (by rw [e3,hd4];omega),e3]
 have hel:(es.take i++es.drop (i+1)).length=es.length - 1:=by simp;omega
 -- what is appended
 obtain⟨q,hq⟩:∃ q,(if cap+1=i+1 then 0 else 0+(i+1) * 4)=q:=⟨_,rfl⟩
 have hqz:((flat (es.map entA)++pad).drop q).take ((es.length - (i+1)) * 4)=flat ((es.drop (i+1)).map entA)∧q+(es.length - (i+1)) * 4≤(flat (es.map entA)++pad).length:=by
  rw [e3]
  by_cases hci:cap+1=i+1
  ·have:es.length - (i+1)=0:=by omega
   rw [if_pos hci] at hq
   rw [this,← hq,List.drop_eq_nil_of_le (by omega:es.length≤i+1)]
   exact⟨by simp [flat],by omega⟩
  ·rw [if_neg hci] at hq
   rw [← hq]
   refine⟨?_,by omega⟩
   have e:flat (es.map entA)++pad=flat ((es.take (i+1)).map entA)++(flat ((es.drop (i+1)).map entA)++pad):=by
    rw [← List.append_assoc,← qga,List.take_append_drop]
   have e':(flat ((es.take (i+1)).map entA)).length=0+(i+1) * 4:=by rw [qc6,List.length_take,Nat.min_eq_left (by omega)];omega
   rw [e,← e',List.drop_left,← hd4,List.take_left]
 have hsrc:SrcA st 4 (.os o ver q (es.length - (i+1)) (cap+1 - (i+1))) (es.length - (i+1)) (es.length - (i+1)) (flat ((es.drop (i+1)).map entA)):=by
  have:=SrcA.os (st:=st) (sz:=4) o ver q (es.length - (i+1)) (cap+1 - (i+1)) (es.length - (i+1)) _ _ e2 hqz.2 (by rw [hqz.1];exact qb2 fun _=>rfl)
  rw [hqz.1] at this
  exact this
 refine qo Tryz.func187 rfl (Nat.le_of_ble_eq_true rfl) ?_
 rw [List.append_nil]
 repeat' (first|(refine zt (sz:=4) (i:=i) (j:=i+1) (m:=es.length) rfl rfl rfl ?_ ?_ ?_ ?_ ?_ ?_ ?_;exact⟨_,rfl⟩;exact⟨_,rfl⟩;exact⟨_,rfl⟩;omega;omega;omega)|apply qk|apply qc|apply qd|apply qj|apply qe|(apply qq;(iterate 3 exact rfl))|(apply qa;exact rfl;apply ko;exact cAo)|(apply zl;(iterate 4 exact rfl))|apply qs)
 refine qri (fun s=>StA [(0,.os o ver 0 (i+(es.length - (i+1))) (cap+1)),(7,Iv es.length)] (st.set o (.cells ver 139 (flat ((es.take i++es.drop (i+1)).map entA)++B1))) [] s) ?_ ?_
 ·refine qi6 rfl rfl ?_
  (apply xp 0;exact rfl;kernel_rfl;kernel_rfl;kernel_rfl;exact rfl;exact yq)
  (apply xp 1;exact rfl;kernel_rfl;kernel_rfl;kernel_rfl;exact rfl;exact yq)
  (apply xp 3;exact rfl;kernel_rfl;kernel_rfl;kernel_rfl;exact rfl;exact yq)
  (apply xp 4;exact rfl;kernel_rfl;kernel_rfl;kernel_rfl;exact rfl;exact yq)
  refine wa [2,5] (by kernel_rfl) rfl ⟨⟨_,rfl,?_⟩,⟨_,rfl,?_⟩,trivial⟩
  ·(refine zt (sz:=4) (i:=0) (j:=i) (m:=cap+1) rfl rfl rfl ?_ ?_ ?_ ?_ ?_ ?_ ?_;exact rfl;exact⟨_,rfl⟩;exact rfl;omega;omega;omega)
   apply qd
   refine wa [5] (by kernel_rfl) rfl ⟨⟨_,rfl,?_⟩,trivial⟩
   (refine zt (sz:=4) (i:=i+1) (j:=es.length) (m:=cap+1) rfl rfl rfl ?_ ?_ ?_ ?_ ?_ ?_ ?_;exact⟨_,rfl⟩;exact⟨rfl,rfl⟩;exact rfl;omega;omega;omega;rw [hq])
   apply qd
   refine wa [6] (by kernel_rfl) rfl ⟨⟨_,rfl,?_⟩,trivial⟩
   (refine qk9 (bytes:=56) (o:=o) (ver:=ver) (n:=i) (cap:=cap+1) (m:=es.length - (i+1)) (cs:=flat (es.map entA)++pad) rfl rfl e2 hsrc rfl rfl ⟨⟨_,_,rfl,rfl,rfl,rfl,rfl⟩⟩ (by omega) e3 ?_;rw [hsp])
   apply qd
   (apply xp 7;exact rfl;kernel_rfl;kernel_rfl;kernel_rfl;exact rfl;exact qst)
   refine qcl (by kernel_rfl) ?_
   exact ww ⟨rfl,rfl,trivial⟩
  ·(refine zt (sz:=4) (i:=i+1) (j:=es.length) (m:=cap+1) rfl rfl rfl ?_ ?_ ?_ ?_ ?_ ?_ ?_;exact⟨_,rfl⟩;exact⟨rfl,rfl⟩;exact rfl;omega;omega;omega;rw [hq])
   apply qd
   refine wa [2] (by kernel_rfl) rfl ⟨⟨_,rfl,?_⟩,trivial⟩
   (refine zt (sz:=4) (i:=0) (j:=i) (m:=cap+1) rfl rfl rfl ?_ ?_ ?_ ?_ ?_ ?_ ?_;exact rfl;exact⟨_,rfl⟩;exact rfl;omega;omega;omega)
   apply qd
   refine wa [6] (by kernel_rfl) rfl ⟨⟨_,rfl,?_⟩,trivial⟩
   (refine qk9 (bytes:=56) (o:=o) (ver:=ver) (n:=i) (cap:=cap+1) (m:=es.length - (i+1)) (cs:=flat (es.map entA)++pad) rfl rfl e2 hsrc rfl rfl ⟨⟨_,_,rfl,rfl,rfl,rfl,rfl⟩⟩ (by omega) e3 ?_;rw [hsp])
   apply qd
   (apply xp 7;exact rfl;kernel_rfl;kernel_rfl;kernel_rfl;exact rfl;exact qst)
   refine qcl (by kernel_rfl) ?_
   exact ww ⟨rfl,rfl,trivial⟩
 ·rintro _ ⟨t,rfl⟩
  have hob:(st.set o (AObj.cells ver 139 (flat ((es.take i++es.drop (i+1)).map entA)++B1)))[o]? = some (.cells ver 139 (flat ((es.take i++es.drop (i+1)).map entA)++B1)):=jv e2
  have hqq:(if cap+1=i+(es.length - (i+1)) then 0 else 0+(i+(es.length - (i+1))) * 4)=(es.length - 1) * 4:=by
   rw [if_neg (by omega)]
   omega
  have hfe:(flat ((es.take i++es.drop (i+1)).map entA)).length=(es.length - 1) * 4:=by rw [qc6,hel]
  repeat' (first|(refine zt (sz:=4) (i:=i+(es.length - (i+1))) (j:=es.length) (m:=cap+1) rfl rfl rfl ?_ ?_ ?_ ?_ ?_ ?_ ?_;exact⟨_,rfl⟩;exact⟨_,rfl⟩;exact rfl;omega;omega;omega;rw [hqq])|(refine qwx (sz:=4) (bytes:=56) rfl hob rfl ⟨⟨_,_,rfl,rfl,rfl,rfl,rfl⟩⟩ rfl (by rw [hsl];omega) fun zs hz=>?_)|apply qk|apply qc|apply qd|apply qj|apply qe|(apply zl;(iterate 4 exact rfl))|apply qr)
  refine ql rfl (zb rfl) ?_
  show OwnR 4 139 _ st _ (.os o ver 0 (i+(es.length - (i+1))) (cap+1)) ((st.set o _).set o (.cells ver 139 (zu (flat ((es.take i++es.drop (i+1)).map entA)++B1) ((es.length - 1) * 4) zs)))
  rw [List.set_set,qdj _ _ _ hfe,List.append_assoc]
  have hB1l:(es.length - 1) * 4+B1.length=(cap+1) * 4:=by rw [← hfe,← List.length_append];exact hsl
  have hzl:zs.length=4:=by rw [hz];omega
  refine⟨.inr ⟨o,ver,cap,zs++B1.drop zs.length,?_,jv e2,?_,qhw _,?_,e6⟩,by simp,fun j hj hne=>List.getElem?_set_ne fun e=>hne (by rw [e];rfl),fun o' ho'=>.inr ho'⟩
  ·rw [List.length_map,hel]
   congr 1
   omega
  ·rw [List.length_append,List.length_append,List.length_drop,hfe,hzl]
   omega
  ·rw [List.length_map,hel]
   omega
theorem q80 (e:EntV) (st:List AObj) (c:AV) (hnr:qd0 c):qn E 188 [c,Iv 0,.sl 4 [entA e] none] st fun r st'=>OwnR 4 139 [entA e] st c r st':=by
 refine qo Tryz.func188 rfl (Nat.le_of_ble_eq_true rfl) ?_
 rw [List.append_nil]
 repeat' (first|(apply zl (n:=1);(iterate 4 exact rfl))|(refine quq (sz:=4) rfl hnr.val rfl rfl ?_ ?_;exact⟨_,rfl⟩)|(apply zl;exact rfl;exact hnr.len;exact rfl;exact rfl)|(refine qie (sz:=4) (ys:=[entA e]) (bytes:=56) hnr.val (fun _ _ h=>h) rfl rfl ⟨⟨_,_,rfl,rfl,rfl,rfl,rfl⟩⟩ rfl (by simp) (by simp [maxLen]) (by simp) fun cap pad q1 q2 q3 q4=>?_)|apply qk|apply qc|apply qd|apply qj|apply qe|(apply qq;(iterate 3 exact rfl))|(apply qa;exact rfl;apply kl;exact cAo)|(apply qa;exact rfl;apply ko;exact cAo)|apply qs|apply qr)
 refine ql rfl (zb rfl) ?_
 show OwnR 4 139 _ st c (.os st.length 0 0 _ (cap+1)) (st++[_])
 refine⟨.inr ⟨_,0,cap,pad,rfl,wu,q1,q2,q3,q4⟩,qfk,fun j hj _=>List.getElem?_append_left hj,fun o ho=>?_⟩
 simp only [zk,Option.some.injEq] at ho
 left
 omega
theorem q70 (es:List EntV) (e:EntV) (hl:es.length<1000000) (st:List AObj) (o ver cap:Nat) (pad:List AV) (e2:st[o]? = some (.cells ver 139 (flat (es.map entA)++pad))) (e3:(flat (es.map entA)++pad).length=(cap+1) * 4) (e5:es.length≤cap+1) (e6:cap+1≤maxLen) :
  qn E 188 [.os o ver 0 es.length (cap+1),Iv es.length,.sl 4 [entA e] none] st fun r st'=>OwnR 4 139 (es.map entA++[entA e]) st (.os o ver 0 es.length (cap+1)) r st':=by
 have hml:(es.map entA).length=es.length:=by simp
 have hlt:=lt_of_getElem? e2
 have hV0:Vec 4 139 o (es.map entA) (.os o ver 0 es.length (cap+1)) (.cells ver 139 (flat (es.map entA)++pad)):=by
  have:=Vec.os (o:=o) (T:=139) (xs:=es.map entA) ver (cap+1) pad e3 (qhw _) (by omega) e6
  rw [hml] at this
  exact this
 refine qo Tryz.func188 rfl (Nat.le_of_ble_eq_true rfl) ?_
 rw [List.append_nil]
 repeat' (first|(apply zl (n:=1);(iterate 4 exact rfl))|(refine zt (sz:=4) (i:=es.length) (j:=es.length) (m:=cap+1) rfl rfl rfl ?_ ?_ ?_ ?_ ?_ ?_ ?_;exact⟨_,rfl⟩;exact⟨rfl,rfl⟩;exact rfl;omega;omega;omega)|(refine qtg (sz:=4) (bytes:=56) (o:=o) (xs:=es.map entA) (ys:=[entA e]) rfl (fun _ _ h=>h) hV0 e2 rfl rfl ⟨⟨_,_,rfl,rfl,rfl,rfl,rfl⟩⟩ rfl (by simp [maxLen];omega) (by simp;omega) fun a' ob' hV=>?_)|apply qk|apply qc|apply qd|apply qj|apply qe|(apply qq;(iterate 3 exact rfl))|(apply qa;exact rfl;apply kl;exact cAo)|(apply qa;exact rfl;apply ko;exact cAo)|(apply zl;(iterate 4 exact rfl))|apply qs|apply qr)
 rcases q9h hV with⟨q,_,_⟩ | ⟨ver',cap',pad',rfl,rfl,q1,q2,q3,q4⟩
 ·simp at q
 ·obtain⟨cap',rfl⟩:∃ c,cap'=c+1:=⟨cap' - 1,by simp at q3;omega⟩
  refine ql rfl (zb rfl) ?_
  show OwnR 4 139 _ st _ (.os o ver' 0 _ (cap'+1)) (st.set o _)
  exact⟨.inr ⟨o,ver',cap',pad',rfl,jv e2,q1,q2,q3,q4⟩,by simp,fun j hj hne=>List.getElem?_set_ne fun e=>hne (by rw [e];rfl),fun o' ho'=>.inr ho'⟩
theorem qt5 (w:World) (a b:Addr) (la ca lb cb:Nat) (tA tB:TypeId) (kA kB:Nat) (h1:a.block≠b.block) (h2:w.shape? a.block=some (tA,kA)) (h3:w.shape? b.block=some (tB,kB)) (h4:kA≠0) (h5:w.frozen? b=false) (h6:w.frozen? { block:=b.block,off:=kB }=false) :
  (callFunc 228 #[.slice (some a) la ca,.slice (some b) lb cb]).run E.P w = .ok (.value (.bool false)) w:=by
 have hz:∀ w,(Go.sizeOf 139).run E.P w = .ok 4 w:=fun w=>(ke (agg:=true) rfl w).1
 rw [run_callFunc_extern (P:=E.P) Tryz.func228 (by kernel_rfl) (by kernel_rfl) (by kernel_rfl) (e:=Extern.SlicesOverlaps.overlaps #[110,110] #[4]) (by kernel_rfl),
  qnw w 110 4 139 rfl 4 hz a b la ca lb cb h1 tA tB kA kB h2 h3 h4 h5 h6]
 rfl
structure InsB (es:List EntV) (e:EntV) (i cap:Nat) (pad:List AV):Prop where
 t4:(flat ((es.take i).map entA)).length=i * 4
 d4:(flat ((es.drop i).map entA)).length=(es.length - i) * 4
 split:flat (es.map entA)++pad=flat ((es.take i).map entA)++(flat ((es.drop i).map entA)++pad)
 take:(flat (es.map entA)++pad).take (i * 4)=flat ((es.take i).map entA)
 drop:((flat (es.map entA)++pad).drop (0+i * 4)).take ((es.length - i) * 4)=flat ((es.drop i).map entA)
 new:flat ((es.take i++e::es.drop i).map entA)=flat ((es.take i).map entA)++flat [entA e]++flat ((es.drop i).map entA)
 nl:(es.take i++e::es.drop i).length=es.length+1
 src:∀ o ver L c' (S:List AObj),(flat (es.map entA)++pad).length=(cap+1) * 4→es.length≤cap+1→S[o]? = some (.cells ver 139 (flat (es.map entA)++pad))→SrcA S 4 (.os o ver (0+i * 4) L c') L (es.length - i) (flat ((es.drop i).map entA))
theorem insB (es:List EntV) (e:EntV) (i cap:Nat) (pad:List AV) (hi:i<es.length):InsB es e i cap pad:=by
 have ht4:(flat ((es.take i).map entA)).length=i * 4:=by rw [qc6,List.length_take,Nat.min_eq_left (by omega)]
 have hd4:(flat ((es.drop i).map entA)).length=(es.length - i) * 4:=by rw [qc6,List.length_drop]
 have hsplit:flat (es.map entA)++pad=flat ((es.take i).map entA)++(flat ((es.drop i).map entA)++pad):=by
  rw [← List.append_assoc,← qga,List.take_append_drop]
 have hdrop:((flat (es.map entA)++pad).drop (0+i * 4)).take ((es.length - i) * 4)=flat ((es.drop i).map entA):=by rw [Nat.zero_add,hsplit,← ht4,List.drop_left,← hd4,List.take_left]
 refine⟨ht4,hd4,hsplit,by rw [hsplit,← ht4,List.take_left],hdrop,?_,by simp;omega,fun o ver L c' S e3 e5 hS=>?_⟩
 ·rw [qga]
  simp [flat]
 ·have:=SrcA.os (st:=S) (sz:=4) o ver (0+i * 4) L c' (es.length - i) _ _ hS (by rw [e3];omega) (by rw [hdrop];exact qb2 fun _=>rfl)
  rw [hdrop] at this
  exact this
set_option maxHeartbeats 4000000 in
theorem q8j (es:List EntV) (e:EntV) (i:Nat) (hi:i<es.length) (hl:es.length<1000000) (st:List AObj) (o ver cap:Nat) (pad:List AV) (e2:st[o]? = some (.cells ver 139 (flat (es.map entA)++pad))) (e3:(flat (es.map entA)++pad).length=(cap+1) * 4) (e5:es.length+1≤cap+1) (e6:cap+1≤maxLen) :
  qn E 188 [.os o ver 0 es.length (cap+1),Iv i,.sl 4 [entA e] none] st fun r st'=>OwnR 4 139 ((es.take i++e::es.drop i).map entA) st (.os o ver 0 es.length (cap+1)) r st':=by
 have hI:=insB es e i cap pad hi
 have hlt:=lt_of_getElem? e2
 have hfl1:(flat [entA e]).length=4:=rfl
 have ht4:=hI.t4
 have hd4:=hI.d4
 have hi1:(if cap+1=i then 0 else 0+i * 4)=0+i * 4:=if_neg (by omega)
 have hi2:(if cap+1=i+1 then 0 else 0+(i+1) * 4)=(i+1) * 4:=by rw [if_neg (by omega)];omega
 obtain⟨B1,hB1⟩:∃ B1,(flat ((es.drop i).map entA)++pad).drop 4=B1:=⟨_,rfl⟩
 obtain⟨A1,hA1⟩:∃ A1,(flat ((es.drop i).map entA)++pad).take 4=A1:=⟨_,rfl⟩
 have hA1l:A1.length=4:=by
  rw [← hA1,List.length_take,List.length_append,hd4]
  omega
 obtain⟨X1,hX1⟩:∃ X1,flat ((es.take i).map entA)++A1++flat ((es.drop i).map entA)++B1.drop ((es.length - i) * 4)=X1:=⟨_,rfl⟩
 have hsp1:zu (flat (es.map entA)++pad) ((i+1) * 4) (flat ((es.drop i).map entA))=X1:=by
  have e1:flat (es.map entA)++pad=(flat ((es.take i).map entA)++A1)++B1:=by rw [hI.split,List.append_assoc,← hA1,← hB1,List.take_append_drop]
  rw [e1,qdj _ _ _ (by rw [List.length_append,ht4,hA1l];omega),hd4,hX1]
 have hsp2:zu X1 (0+i * 4) (flat [entA e])=flat ((es.take i++e::es.drop i).map entA)++B1.drop ((es.length - i) * 4):=by
  have e1:X1=flat ((es.take i).map entA)++(A1++(flat ((es.drop i).map entA)++B1.drop ((es.length - i) * 4))):=by rw [← hX1];simp
  rw [e1,qdj _ _ _ (by rw [ht4];omega),hfl1,List.drop_append_of_le_length (by omega),List.drop_eq_nil_of_le (by omega:A1.length≤4),hI.new]
  simp
 have hsl1:X1.length=(cap+1) * 4:=by
  rw [← hsp1,qg1 (by rw [e3,hd4];omega),e3]
 have hsl2:(flat ((es.take i++e::es.drop i).map entA)++B1.drop ((es.length - i) * 4)).length=(cap+1) * 4:=by
  rw [← hsp2,qg1 (by rw [hsl1,hfl1];omega),hsl1]
 have hsrc:=hI.src o ver (es.length+1 - i) (cap+1 - i) st e3 (by omega) e2
 have hnl:=hI.nl
 generalize hXn:flat ((es.take i++e::es.drop i).map entA)++B1.drop ((es.length - i) * 4)=Xn at hsp2 hsl2
 clear hX1 hB1 hA1 hI ht4 hd4
 generalize hdz:flat ((es.drop i).map entA)=dz at hsp1 hsrc
 refine qo Tryz.func188 rfl (Nat.le_of_ble_eq_true rfl) ?_
 rw [List.append_nil]
 generalize flat (es.map entA)++pad=X0 at e2 e3 hsp1
 repeat' (first|apply qk|apply qc|apply qd|apply qj|apply qe)
 refine zt (o:=o) (ver:=ver) (off:=0) (len:=es.length) (cap:=cap+1) (sz:=4) (i:=i) (j:=es.length) (m:=cap+1) rfl rfl rfl ?_ ?_ ?_ (by omega) (by omega) (by omega) ?_
 ·exact⟨_,rfl⟩
 ·exact⟨rfl,rfl⟩
 ·exact rfl
 repeat' (first|(apply zl (n:=1);(iterate 4 exact rfl))|apply qk|apply qc|apply qd|apply qj|apply qe|(apply qq;(iterate 3 exact rfl))|(apply qa;exact rfl;apply ko;exact cAo)|(apply zl;(iterate 4 exact rfl))|(apply zv;exact rfl;exact rfl;exact q5 (by omega) (by omega))|apply qs)
 refine qqi rfl rfl rfl ?_
 repeat' (first|apply qk|apply qc|apply qd|apply qj|(apply qq;(iterate 3 exact rfl))|(apply qa;exact rfl;apply ko;exact cAo)|(apply zv;exact rfl;exact rfl;exact q5 (by omega) (by omega))|apply qs)
 refine zt (o:=o) (ver:=ver) (off:=0) (len:=es.length) (cap:=cap+1) (sz:=4) (i:=0) (j:=es.length+1) (m:=cap+1) rfl rfl rfl ?_ ?_ ?_ (by omega) (by omega) (by omega) ?_
 ·exact rfl
 ·exact⟨_,rfl⟩
 ·exact rfl
 repeat' (first|apply qk|apply qc|apply qd|apply qj|apply qe|(apply zv;exact rfl;exact rfl;exact q5 (by omega) (by omega)))
 refine zt (o:=o) (ver:=ver) (off:=0) (len:=es.length+1) (cap:=cap+1) (sz:=4) (i:=i+1) (j:=es.length+1) (m:=cap+1) rfl rfl rfl ?_ ?_ ?_ (by omega) (by omega) (by omega) ?_
 ·exact⟨_,rfl⟩
 ·exact⟨rfl,rfl⟩
 ·exact rfl
 rw [hi2]
 repeat' (first|(apply qec;first|apply qk|apply qu|apply qc|(apply qa;exact rfl;apply kl;exact cAo)|(apply qa;exact rfl;apply ko;exact cAo)|(apply qa;exact rfl;apply qd8;exact cRa)|(apply qa;exact rfl;apply qe4;exact cRa)|(apply qa;exact rfl;apply cd_n <;> intro h)|(apply qa;exact rfl;apply cd_t;exact cRa)|(apply qa;exact rfl;apply cd_f;exact cRa)|(apply qa;exact rfl;apply cd_d <;> intro h)|(apply qa;exact rfl;apply cd_s <;> intro h)|apply qs|apply jp|apply qr)|(apply qb3;first|(apply ze;(iterate 4 exact rfl))|(apply vt;(iterate 4 exact rfl)))|(apply qfg;first|(apply yu;exact cAo)|(apply wl;exact cAo)|(apply wq;exact cAo)|(apply yl;exact cAo)|(apply qbw;exact cRa)|(apply ym;exact cRa)|(apply yg;exact cRa)|(apply qaz;exact cRa)|(apply yz <;> intro h)|(apply x6;exact cRa)|(apply qcv;exact cRa)|(apply yh;exact cRa)|(apply xe;exact cRa)|(apply vg <;> intro h)|(apply qai <;> intro h))|(apply qfs;first|apply qdx|(apply qft;(iterate 4 exact rfl))|(apply qih;exact rfl;exact rfl;exact q5 (by omega) (by omega))|(apply qfx;(iterate 4 exact rfl);exact cAs;exact cAs)|(apply qbd;(iterate 5 exact rfl))|(apply qbs;exact rfl;exact rfl;exact cOs)|(apply qa5;(iterate 3 exact rfl))|(apply y7;(iterate 5 exact rfl))|(apply xj;(iterate 4 exact rfl))|(apply xk;(iterate 3 exact rfl))|(apply qgg;(iterate 3 exact rfl);exact cAs)|(apply qen;exact rfl;exact rfl)|(apply qcu;exact rfl;exact rfl)|(apply qct;(iterate 3 exact rfl);omega)|(apply qbp;(iterate 3 exact rfl))|apply qcj|apply qbv|(apply qhz;exact rfl;exact rfl;exact q5 (by omega) (by omega))|(apply qfi;(iterate 3 exact rfl))|(apply qem;(iterate 3 exact rfl);exact cAs)|(apply qew;(iterate 3 exact rfl);exact cAs)|(apply qa4;exact rfl;exact rfl))|(apply qb8;first|(apply qq;(iterate 3 exact rfl))|(apply jb;(iterate 3 exact rfl))|(apply jq;exact rfl;exact rfl;exact cOs)|(apply zv;exact rfl;exact rfl;exact q5 (by omega) (by omega))|(apply xn;exact rfl;exact rfl;exact q5 (by omega) (by omega))|(apply ji;exact rfl;exact rfl)|(apply jj;exact rfl;exact rfl)|(apply wx;exact rfl;exact rfl)|(apply wz;exact rfl;exact rfl)|(apply wh;(iterate 3 exact rfl))|(apply xu;(iterate 3 exact rfl))|(apply yc;exact rfl;exact rfl;(first|exact qv _|exact rfl);first|exact qv _|exact rfl)|(apply y5;exact rfl;exact rfl;(first|exact qv _|exact rfl);first|exact qv _|exact rfl)|(apply qc1;exact rfl;exact rfl;(first|exact qv _|exact rfl);first|exact qv _|exact rfl)|(apply xl;(iterate 3 exact rfl))|(apply ye;(iterate 3 exact rfl)))|(apply qc7;first|(apply zn;(iterate 3 exact rfl))|(apply xv;(iterate 5 exact rfl))|(apply zh;(iterate 5 exact rfl)))|(apply qc2;first|(apply qa8;exact rfl)|(apply jc;exact rfl)|(apply xi;exact rfl))|(apply qb4;first|(apply qaw;(iterate 3 exact rfl);exact cAs)|(apply qas;(iterate 3 exact rfl);exact cAs)|(apply qbr;(iterate 4 exact rfl);exact cAs;exact cAs)|(apply wi;(iterate 4 exact rfl);(first|assumption|omega|exact Nat.succ_le_succ (Nat.zero_le _)|(simp;omega));exact rfl))|(apply qcz;first|(apply jz;(iterate 3 exact rfl))|(apply zl;(iterate 4 exact rfl)))|(apply x5;first|(apply qz;(iterate 3 exact rfl))|(apply vm;(iterate 4 exact rfl)))|(apply qb7;first|(apply ve;(iterate 11 exact rfl))|(apply zf;(iterate 11 exact rfl)))|(apply qed;first|apply qd|apply qj|apply qe|(apply zg;exact rfl;exact rfl)|(apply qi;exact rfl;apply y6;exact cAo)|(apply qi;exact rfl;apply yo;exact cAo)|(apply qi;exact rfl;apply qff;exact cRa)|(apply qi;exact rfl;apply qd5;exact cRa)|(apply qi;exact rfl;apply pk_t;exact cRa)|(apply qi;exact rfl;apply pk_f;exact cRa)|(apply za;exact rfl;exact rfl)|apply w7|(apply zm;exact rfl;exact rfl)|(apply vu;(iterate 4 exact rfl))|(apply y0;(iterate 3 exact rfl))|(apply qby;(iterate 3 exact rfl);exact cAs)|(apply jr;(iterate 3 exact rfl))|(apply js;(iterate 9 exact rfl))|(apply kh;exact rfl;exact rfl)|(apply yb;(iterate 4 exact rfl);(first|assumption|omega|decide);exact rfl)|(apply vo;(iterate 4 exact rfl);first|assumption|omega|decide)))
 refine qs6 (xs:=[entA e]) (o:=o) (ver:=ver) rfl rfl e2 (by simp [flat,AV.cells]) qt5 ?_
 repeat' (first|apply qk|apply qd|(apply jc;exact rfl)|(apply qa;exact rfl;apply qd8;exact cRa))
 refine qex [(0,.os o ver 0 (es.length+1) (cap+1)),(1,Iv i),(2,.sl 4 [entA e] none),(7,Iv 1)] st [] ⟨rfl,rfl,rfl,rfl,trivial⟩ rfl rfl fun t=>?_
 refine qri (fun s=>StA [(0,.os o ver 0 (es.length+1) (cap+1)),(1,Iv i),(2,.sl 4 [entA e] none)] (st.set o (.cells ver 139 X1)) [] s) ?_ ?_
 ·refine qi6 rfl rfl ?_
  (apply xp 0;exact rfl;kernel_rfl;kernel_rfl;kernel_rfl;exact rfl;exact yq)
  (apply xp 1;exact rfl;kernel_rfl;kernel_rfl;kernel_rfl;exact rfl;exact yq)
  (apply xp 2;exact rfl;kernel_rfl;kernel_rfl;kernel_rfl;exact rfl;exact yq)
  (apply xp 5;exact rfl;kernel_rfl;kernel_rfl;kernel_rfl;exact rfl;exact yq)
  (apply xp 6;exact rfl;kernel_rfl;kernel_rfl;kernel_rfl;exact rfl;exact yq)
  refine wa [3,7] (by kernel_rfl) rfl ⟨⟨_,rfl,?_⟩,⟨_,rfl,?_⟩,trivial⟩
  ·(apply zv;exact rfl;exact rfl;exact q5 (by omega) (by omega))
   apply qd
   refine wa [4,7] (by kernel_rfl) rfl ⟨⟨_,rfl,?_⟩,⟨_,rfl,?_⟩,trivial⟩
   ·(refine zt (o:=o) (ver:=ver) (off:=0) (len:=es.length+1) (cap:=cap+1) (sz:=4) (i:=i+1) (j:=es.length+1) (m:=cap+1) rfl rfl rfl ?_ ?_ ?_ (by omega) (by omega) (by omega) ?_;exact⟨_,rfl⟩;exact⟨rfl,rfl⟩;exact rfl;rw [hi2])
    apply qd
    refine wa [7] (by kernel_rfl) rfl ⟨⟨_,rfl,?_⟩,trivial⟩
    (refine zt (o:=o) (ver:=ver) (off:=0) (len:=es.length+1) (cap:=cap+1) (sz:=4) (i:=i) (j:=es.length+1) (m:=cap+1) rfl rfl rfl ?_ ?_ ?_ (by omega) (by omega) (by omega) ?_;exact⟨_,rfl⟩;exact⟨rfl,rfl⟩;exact rfl;rw [hi1])
    apply qd
    refine wa [8] (by kernel_rfl) rfl ⟨⟨_,rfl,?_⟩,trivial⟩
    (refine y8 (o:=o) (ver:=ver) (off:=(i+1) * 4) (sz:=4) (bytes:=56) (m:=es.length - i) rfl rfl e2 hsrc ?_ rfl ⟨⟨_,_,rfl,rfl,rfl,rfl,rfl⟩⟩ ?_ ?_;(show min _ _=_;omega);(rw [e3];omega);rw [hsp1])
    apply qd
    refine qcl (by kernel_rfl) ?_
    exact ww ⟨rfl,rfl,rfl,trivial⟩
   ·(refine zt (o:=o) (ver:=ver) (off:=0) (len:=es.length+1) (cap:=cap+1) (sz:=4) (i:=i) (j:=es.length+1) (m:=cap+1) rfl rfl rfl ?_ ?_ ?_ (by omega) (by omega) (by omega) ?_;exact⟨_,rfl⟩;exact⟨rfl,rfl⟩;exact rfl;rw [hi1])
    apply qd
    refine wa [4] (by kernel_rfl) rfl ⟨⟨_,rfl,?_⟩,trivial⟩
    (refine zt (o:=o) (ver:=ver) (off:=0) (len:=es.length+1) (cap:=cap+1) (sz:=4) (i:=i+1) (j:=es.length+1) (m:=cap+1) rfl rfl rfl ?_ ?_ ?_ (by omega) (by omega) (by omega) ?_;exact⟨_,rfl⟩;exact⟨rfl,rfl⟩;exact rfl;rw [hi2])
    apply qd
    refine wa [8] (by kernel_rfl) rfl ⟨⟨_,rfl,?_⟩,trivial⟩
    (refine y8 (o:=o) (ver:=ver) (off:=(i+1) * 4) (sz:=4) (bytes:=56) (m:=es.length - i) rfl rfl e2 hsrc ?_ rfl ⟨⟨_,_,rfl,rfl,rfl,rfl,rfl⟩⟩ ?_ ?_;(show min _ _=_;omega);(rw [e3];omega);rw [hsp1])
    apply qd
    refine qcl (by kernel_rfl) ?_
    exact ww ⟨rfl,rfl,rfl,trivial⟩
  ·(refine zt (o:=o) (ver:=ver) (off:=0) (len:=es.length+1) (cap:=cap+1) (sz:=4) (i:=i) (j:=es.length+1) (m:=cap+1) rfl rfl rfl ?_ ?_ ?_ (by omega) (by omega) (by omega) ?_;exact⟨_,rfl⟩;exact⟨rfl,rfl⟩;exact rfl;rw [hi1])
   apply qd
   refine wa [3] (by kernel_rfl) rfl ⟨⟨_,rfl,?_⟩,trivial⟩
   (apply zv;exact rfl;exact rfl;exact q5 (by omega) (by omega))
   apply qd
   refine wa [4] (by kernel_rfl) rfl ⟨⟨_,rfl,?_⟩,trivial⟩
   (refine zt (o:=o) (ver:=ver) (off:=0) (len:=es.length+1) (cap:=cap+1) (sz:=4) (i:=i+1) (j:=es.length+1) (m:=cap+1) rfl rfl rfl ?_ ?_ ?_ (by omega) (by omega) (by omega) ?_;exact⟨_,rfl⟩;exact⟨rfl,rfl⟩;exact rfl;rw [hi2])
   apply qd
   refine wa [8] (by kernel_rfl) rfl ⟨⟨_,rfl,?_⟩,trivial⟩
   (refine y8 (o:=o) (ver:=ver) (off:=(i+1) * 4) (sz:=4) (bytes:=56) (m:=es.length - i) rfl rfl e2 hsrc ?_ rfl ⟨⟨_,_,rfl,rfl,rfl,rfl,rfl⟩⟩ ?_ ?_;(show min _ _=_;omega);(rw [e3];omega);rw [hsp1])
   apply qd
   refine qcl (by kernel_rfl) ?_
   exact ww ⟨rfl,rfl,rfl,trivial⟩
 ·rintro _ ⟨t,rfl⟩
  have hob:(st.set o (AObj.cells ver 139 X1))[o]? = some (.cells ver 139 X1):=jv e2
  repeat' (first|apply qk|apply qc|apply qj)
  refine zt (o:=o) (ver:=ver) (off:=0) (len:=es.length+1) (cap:=cap+1) (sz:=4) (i:=i) (j:=es.length+1) (m:=cap+1) rfl rfl rfl ?_ ?_ ?_ (by omega) (by omega) (by omega) ?_
  ·exact⟨_,rfl⟩
  ·exact⟨rfl,rfl⟩
  ·exact rfl
  rw [hi1]
  repeat' (first|apply qj)
  refine y8 (o:=o) (ver:=ver) (off:=0+i * 4) (sz:=4) (bytes:=56) (L:=1) (m:=1) rfl rfl hob (.sl [entA e] none rfl) ?_ rfl ⟨⟨_,_,rfl,rfl,rfl,rfl,rfl⟩⟩ ?_ ?_
  ·show min _ _=_
   omega
  ·rw [hsl1]
   omega
  rw [hsp2]
  repeat' (first|apply qk|apply qc|apply qd|apply qj|apply qe|apply qr)
  refine ql rfl (zb rfl) ?_
  show OwnR 4 139 _ st _ (.os o ver 0 (es.length+1) (cap+1)) ((st.set o _).set o (.cells ver 139 Xn))
  rw [List.set_set,← hXn]
  rw [← hXn] at hsl2
  exact⟨.inr ⟨o,ver,cap,_,by rw [List.length_map,hnl],jv e2,hsl2,qhw _,by rw [List.length_map,hnl];omega,e6⟩,by simp,fun j hj hne=>List.getElem?_set_ne fun e=>hne (by rw [e];rfl),fun o' ho'=>.inr ho'⟩
set_option maxHeartbeats 4000000 in
theorem q85 (es:List EntV) (e:EntV) (i:Nat) (hi:i<es.length) (hl:es.length<1000000) (st:List AObj) (o ver cap:Nat) (pad:List AV) (e2:st[o]? = some (.cells ver 139 (flat (es.map entA)++pad))) (e3:(flat (es.map entA)++pad).length=(cap+1) * 4) (e5:es.length=cap+1) (e6:cap+1≤maxLen) :
  qn E 188 [.os o ver 0 es.length (cap+1),Iv i,.sl 4 [entA e] none] st fun r st'=>OwnR 4 139 ((es.take i++e::es.drop i).map entA) st (.os o ver 0 es.length (cap+1)) r st':=by
 have hI:=insB es e i cap pad hi
 have hlt:=lt_of_getElem? e2
 have hfl1:(flat [entA e]).length=4:=rfl
 have ht4:=hI.t4
 have hd4:=hI.d4
 have htake:=hI.take
 have hi1:(if cap+1=i then 0 else 0+i * 4)=0+i * 4:=if_neg (by omega)
 have hsrc:=fun S=>hI.src o ver (es.length - i) (cap+1 - i) S e3 (by omega)
 have hnl:=hI.nl
 have hnew:=hI.new
 have hk9:Iv ((es.length:Int)+1 - i)=Iv ((es.length+1 - i:Nat):Int):=congrArg (fun z:Int=>Iv z) (by omega)
 have hkk:i+(es.length+1 - i)=es.length+1:=by omega
 generalize flat ((es.drop i).map entA)=dz at hsrc hd4 hnew
 refine qo Tryz.func188 rfl (Nat.le_of_ble_eq_true rfl) ?_
 rw [List.append_nil]
 generalize flat (es.map entA)++pad=X0 at e2 e3 htake hsrc
 repeat' (first|apply qk|apply qc|apply qd|apply qj|apply qe)
 refine zt (o:=o) (ver:=ver) (off:=0) (len:=es.length) (cap:=cap+1) (sz:=4) (i:=i) (j:=es.length) (m:=cap+1) rfl rfl rfl ?_ ?_ ?_ (by omega) (by omega) (by omega) ?_
 ·exact⟨_,rfl⟩
 ·exact⟨rfl,rfl⟩
 ·exact rfl
 repeat' (first|(apply zl (n:=1);(iterate 4 exact rfl))|apply qk|apply qc|apply qd|apply qj|apply qe|(apply qq;(iterate 3 exact rfl))|(apply qa;exact rfl;apply ko;exact cAo)|(apply zl;(iterate 4 exact rfl))|(apply zv;exact rfl;exact rfl;exact q5 (by omega) (by omega))|apply qs)
 refine qqi rfl rfl rfl ?_
 refine qqu [(0,.os o ver 0 es.length (cap+1)),(1,Iv i),(2,.sl 4 [entA e] none),(7,Iv 1),(8,Iv es.length),(28,Iv ((es.length:Int)+1)),(30,Iv ((cap+1:Nat):Int))] st [] ⟨rfl,rfl,rfl,rfl,rfl,rfl,rfl,trivial⟩ rfl rfl fun t=>?_
 repeat' (first|apply qk|apply qc|apply qd|apply qj|(apply qq;(iterate 3 exact rfl))|(apply qa;exact rfl;apply kl;exact cAo))
 refine zt (o:=o) (ver:=ver) (off:=0) (len:=es.length) (cap:=cap+1) (sz:=4) (i:=0) (j:=i) (m:=cap+1) rfl rfl rfl ?_ ?_ ?_ (by omega) (by omega) (by omega) ?_
 ·exact rfl
 ·exact⟨_,rfl⟩
 ·exact rfl
 repeat' (first|apply qj|(apply zv;exact rfl;exact rfl;exact q5 (by omega) (by omega))|(apply xn;exact rfl;exact rfl;exact q5 (by omega) (by omega)))
 refine qoq (sz:=4) (bytes:=56) (o:=o) (ver:=ver) (n:=i) (cap:=cap+1) (k:=es.length+1 - i) (cs:=X0) rfl hk9 e2 rfl rfl ⟨⟨_,_,rfl,rfl,rfl,rfl,rfl⟩⟩ (by omega) (by omega) (by omega) (by rw [e3];omega) (by simp only [maxLen];omega) (by omega) fun cap' zs z1 z2 z3=>?_
 rw [hkk,htake]
 refine qqu [(0,.os o ver 0 es.length (cap+1)),(1,Iv i),(2,.sl 4 [entA e] none),(7,Iv 1),(40,.os st.length 0 0 (es.length+1) cap')] (st++[.cells 0 139 (flat ((es.take i).map entA)++zs)]) [] ⟨rfl,rfl,rfl,rfl,rfl,trivial⟩ rfl rfl fun t=>?_
 obtain⟨cap',rfl⟩:∃ c,cap'=c+1:=⟨cap' - 1,by omega⟩
 have hi3:(if cap'+1=i then 0 else 0+i * 4)=0+i * 4:=if_neg (by omega)
 have hi4:(if cap'+1=i+1 then 0 else 0+(i+1) * 4)=(i+1) * 4:=by rw [if_neg (by omega)];omega
 have hsp1:zu (flat ((es.take i).map entA)++zs) (0+i * 4) (flat [entA e])=(flat ((es.take i).map entA)++flat [entA e])++zs.drop 4:=qdj _ _ _ (by rw [ht4];omega)
 have hsp2:zu ((flat ((es.take i).map entA)++flat [entA e])++zs.drop 4) ((i+1) * 4) dz=flat ((es.take i++e::es.drop i).map entA)++(zs.drop 4).drop dz.length:=by
  rw [qdj _ _ _ (by rw [List.length_append,ht4,hfl1];omega),hnew]
 have hl1:((flat ((es.take i).map entA)++flat [entA e])++zs.drop 4).length=(cap'+1) * 4:=by
  simp only [List.length_append,List.length_drop,ht4,hfl1,z1]
  omega
 have hl2:(flat ((es.take i++e::es.drop i).map entA)++(zs.drop 4).drop dz.length).length=(cap'+1) * 4:=by
  rw [← hsp2,qg1 (by rw [hl1,hd4];omega),hl1]
 have hl0:(flat ((es.take i).map entA)++zs).length=(cap'+1) * 4:=by
  rw [List.length_append,ht4,z1]
  omega
 repeat' (first|apply qk|apply qc|apply qd|apply qj|apply qe)
 refine zt (o:=st.length) (ver:=0) (off:=0) (len:=es.length+1) (cap:=cap'+1) (sz:=4) (i:=i) (j:=es.length+1) (m:=cap'+1) rfl rfl rfl ?_ ?_ ?_ (by omega) (by omega) (by omega) ?_
 ·exact⟨_,rfl⟩
 ·exact⟨rfl,rfl⟩
 ·exact rfl
 rw [hi3]
 repeat' (first|apply qj)
 refine y8 (o:=st.length) (ver:=0) (off:=0+i * 4) (sz:=4) (bytes:=56) (L:=1) (m:=1) rfl rfl wu (.sl [entA e] none rfl) ?_ rfl ⟨⟨_,_,rfl,rfl,rfl,rfl,rfl⟩⟩ ?_ ?_
 ·show min _ _=_
  omega
 ·rw [hl0]
  omega
 rw [hsp1]
 generalize hX1:(flat ((es.take i).map entA)++flat [entA e])++zs.drop 4=X1 at hsp2 hl1
 have hbo:(st++[AObj.cells 0 139 (flat ((es.take i).map entA)++zs)])[st.length]? = some (.cells 0 139 (flat ((es.take i).map entA)++zs)):=wu
 have hS1n:((st++[AObj.cells 0 139 (flat ((es.take i).map entA)++zs)]).set st.length (.cells 0 139 X1))[st.length]? = some (.cells 0 139 X1):=jv hbo
 have hS1o:((st++[AObj.cells 0 139 (flat ((es.take i).map entA)++zs)]).set st.length (.cells 0 139 X1))[o]? = some (.cells ver 139 X0):=by
  rw [List.getElem?_set_ne (by omega),List.getElem?_append_left hlt]
  exact e2
 have hS1j:∀ j,j<st.length→((st++[AObj.cells 0 139 (flat ((es.take i).map entA)++zs)]).set st.length (.cells 0 139 X1))[j]? = st[j]?:=fun j hj=>by
  rw [List.getElem?_set_ne (by omega),List.getElem?_append_left hj]
 have hS1l:((st++[AObj.cells 0 139 (flat ((es.take i).map entA)++zs)]).set st.length (.cells 0 139 X1)).length=st.length+1:=by simp
 repeat' (first|apply qk|apply qd)
 refine qex [(0,.os o ver 0 es.length (cap+1)),(1,Iv i),(7,Iv 1),(9,.os st.length 0 0 (es.length+1) (cap'+1))] ((st++[AObj.cells 0 139 (flat ((es.take i).map entA)++zs)]).set st.length (.cells 0 139 X1)) [] ⟨rfl,rfl,rfl,rfl,trivial⟩ rfl rfl fun t=>?_
 generalize (st++[AObj.cells 0 139 (flat ((es.take i).map entA)++zs)]).set st.length (.cells 0 139 X1)=S1 at hS1n hS1o hS1j hS1l
 refine qri (fun s=>StA [(9,.os st.length 0 0 (es.length+1) (cap'+1))] (S1.set st.length (.cells 0 139 (flat ((es.take i++e::es.drop i).map entA)++(zs.drop 4).drop dz.length))) [] s) ?_ ?_
 ·refine qi6 rfl rfl ?_
  (apply xp 0;exact rfl;kernel_rfl;kernel_rfl;kernel_rfl;exact rfl;exact yq)
  (apply xp 1;exact rfl;kernel_rfl;kernel_rfl;kernel_rfl;exact rfl;exact yq)
  (apply xp 2;exact rfl;kernel_rfl;kernel_rfl;kernel_rfl;exact rfl;exact yq)
  (apply xp 5;exact rfl;kernel_rfl;kernel_rfl;kernel_rfl;exact rfl;exact yq)
  (apply xp 6;exact rfl;kernel_rfl;kernel_rfl;kernel_rfl;exact rfl;exact yq)
  refine wa [3,7] (by kernel_rfl) rfl ⟨⟨_,rfl,?_⟩,⟨_,rfl,?_⟩,trivial⟩
  ·(apply zv;exact rfl;exact rfl;exact q5 (by omega) (by omega))
   apply qd
   refine wa [4,7] (by kernel_rfl) rfl ⟨⟨_,rfl,?_⟩,⟨_,rfl,?_⟩,trivial⟩
   ·(refine zt (o:=st.length) (ver:=0) (off:=0) (len:=es.length+1) (cap:=cap'+1) (sz:=4) (i:=i+1) (j:=es.length+1) (m:=cap'+1) rfl rfl rfl ?_ ?_ ?_ (by omega) (by omega) (by omega) ?_;exact⟨_,rfl⟩;exact⟨rfl,rfl⟩;exact rfl;rw [hi4])
    apply qd
    refine wa [7] (by kernel_rfl) rfl ⟨⟨_,rfl,?_⟩,trivial⟩
    (refine zt (o:=o) (ver:=ver) (off:=0) (len:=es.length) (cap:=cap+1) (sz:=4) (i:=i) (j:=es.length) (m:=cap+1) rfl rfl rfl ?_ ?_ ?_ (by omega) (by omega) (by omega) ?_;exact⟨_,rfl⟩;exact⟨rfl,rfl⟩;exact rfl;rw [hi1])
    apply qd
    refine wa [8] (by kernel_rfl) rfl ⟨⟨_,rfl,?_⟩,trivial⟩
    (refine y8 (o:=st.length) (ver:=0) (off:=(i+1) * 4) (sz:=4) (bytes:=56) (m:=es.length - i) rfl rfl hS1n (hsrc S1 hS1o) ?_ rfl ⟨⟨_,_,rfl,rfl,rfl,rfl,rfl⟩⟩ ?_ ?_;(show min _ _=_;omega);(rw [hl1];omega);rw [hsp2])
    apply qd
    refine qcl (by kernel_rfl) ?_
    exact ww ⟨rfl,trivial⟩
   ·(refine zt (o:=o) (ver:=ver) (off:=0) (len:=es.length) (cap:=cap+1) (sz:=4) (i:=i) (j:=es.length) (m:=cap+1) rfl rfl rfl ?_ ?_ ?_ (by omega) (by omega) (by omega) ?_;exact⟨_,rfl⟩;exact⟨rfl,rfl⟩;exact rfl;rw [hi1])
    apply qd
    refine wa [4] (by kernel_rfl) rfl ⟨⟨_,rfl,?_⟩,trivial⟩
    (refine zt (o:=st.length) (ver:=0) (off:=0) (len:=es.length+1) (cap:=cap'+1) (sz:=4) (i:=i+1) (j:=es.length+1) (m:=cap'+1) rfl rfl rfl ?_ ?_ ?_ (by omega) (by omega) (by omega) ?_;exact⟨_,rfl⟩;exact⟨rfl,rfl⟩;exact rfl;rw [hi4])
    apply qd
    refine wa [8] (by kernel_rfl) rfl ⟨⟨_,rfl,?_⟩,trivial⟩
    (refine y8 (o:=st.length) (ver:=0) (off:=(i+1) * 4) (sz:=4) (bytes:=56) (m:=es.length - i) rfl rfl hS1n (hsrc S1 hS1o) ?_ rfl ⟨⟨_,_,rfl,rfl,rfl,rfl,rfl⟩⟩ ?_ ?_;(show min _ _=_;omega);(rw [hl1];omega);rw [hsp2])
    apply qd
    refine qcl (by kernel_rfl) ?_
    exact ww ⟨rfl,trivial⟩
  ·(refine zt (o:=o) (ver:=ver) (off:=0) (len:=es.length) (cap:=cap+1) (sz:=4) (i:=i) (j:=es.length) (m:=cap+1) rfl rfl rfl ?_ ?_ ?_ (by omega) (by omega) (by omega) ?_;exact⟨_,rfl⟩;exact⟨rfl,rfl⟩;exact rfl;rw [hi1])
   apply qd
   refine wa [3] (by kernel_rfl) rfl ⟨⟨_,rfl,?_⟩,trivial⟩
   (apply zv;exact rfl;exact rfl;exact q5 (by omega) (by omega))
   apply qd
   refine wa [4] (by kernel_rfl) rfl ⟨⟨_,rfl,?_⟩,trivial⟩
   (refine zt (o:=st.length) (ver:=0) (off:=0) (len:=es.length+1) (cap:=cap'+1) (sz:=4) (i:=i+1) (j:=es.length+1) (m:=cap'+1) rfl rfl rfl ?_ ?_ ?_ (by omega) (by omega) (by omega) ?_;exact⟨_,rfl⟩;exact⟨rfl,rfl⟩;exact rfl;rw [hi4])
   apply qd
   refine wa [8] (by kernel_rfl) rfl ⟨⟨_,rfl,?_⟩,trivial⟩
   (refine y8 (o:=st.length) (ver:=0) (off:=(i+1) * 4) (sz:=4) (bytes:=56) (m:=es.length - i) rfl rfl hS1n (hsrc S1 hS1o) ?_ rfl ⟨⟨_,_,rfl,rfl,rfl,rfl,rfl⟩⟩ ?_ ?_;(show min _ _=_;omega);(rw [hl1];omega);rw [hsp2])
   apply qd
   refine qcl (by kernel_rfl) ?_
   exact ww ⟨rfl,trivial⟩
 ·rintro _ ⟨t,rfl⟩
  repeat' (first|apply qk|apply qc|apply qd|apply qj|apply qe|apply qr)
  refine ql rfl (zb rfl) ?_
  show OwnR 4 139 _ st _ (.os st.length 0 0 (es.length+1) (cap'+1)) (S1.set st.length (.cells 0 139 (flat ((es.take i++e::es.drop i).map entA)++(zs.drop 4).drop dz.length)))
  refine⟨.inr ⟨st.length,0,cap',_,by rw [List.length_map,hnl],jv hS1n,hl2,qhw _,by rw [List.length_map,hnl];omega,z3⟩,by rw [List.length_set,hS1l];omega,fun j hj _=>?_,fun o' ho'=>?_⟩
  ·rw [List.getElem?_set_ne (by omega)]
   exact hS1j j hj
  ·simp only [zk,Option.some.injEq] at ho'
   left
   omega
theorem q2h (es:List EntV) (e:EntV) (i:Nat) (hi:i≤es.length) (hl:es.length<1000000) (st:List AObj) (c:AV) (hc:OwnS st 4 139 (es.map entA) c):qn E 188 [c,Iv i,.sl 4 [entA e] none] st fun r st'=>OwnR 4 139 ((es.take i++e::es.drop i).map entA) st c r st':=by
 have hml:(es.map entA).length=es.length:=by simp
 have hap:i=es.length→(es.take i++e::es.drop i).map entA=es.map entA++[entA e]:=fun h=>by subst h;simp
 rcases hc with⟨h0,hnr⟩ | ⟨o,ver,cap,pad,rfl,e2,e3,e4,e5,e6⟩
 ·have hes:es=[]:=by simpa using h0
  subst hes
  obtain rfl:i=0:=by simpa using hi
  rw [hap rfl]
  exact q80 e st c hnr
 ·rw [hml] at e5 ⊢
  by_cases hin:i=es.length
  ·rw [hap hin]
   subst hin
   exact q70 es e hl st o ver cap pad e2 e3 e5 e6
  ·by_cases hroom:es.length+1≤cap+1
   ·exact q8j es e i (by omega) hl st o ver cap pad e2 e3 hroom e6
   ·exact q85 es e i (by omega) hl st o ver cap pad e2 e3 (by omega) e6
end Go.Proofs.YtmoklbacdkmkaaaGreatDoor
namespace Go.Pl
open Go Go.Proofs
def q0w (l:zx) (i:Nat) (x:j6):zx:=match l.ents[i]? with
 |some e=>⟨l.ents.set i ⟨x,e.id⟩,l.next,l.many⟩
 |none=>l
def qf2 (l:zx) (id:Int) (fs:List Fld):ErrV×zx:=if atF l id<0 then (.num 7,l) else if kp fs = .no then (.no,q0w l (atF l id).toNat (qhy fs)) else (kp fs,l)
def delL (l:zx) (i:Nat):zx:=⟨l.ents.take i++l.ents.drop (i+1),l.next,l.many - 1⟩
def delF (l:zx) (id:Int):ErrV×zx:=if atF l id<0 then (.num 7,l) else (.no,delL l (atF l id).toNat)
def insL (l:zx) (k:Nat) (x:j6):zx:=⟨l.ents.take k++⟨x,l.next⟩::l.ents.drop k,l.next+1,l.many+1⟩
def insF (l:zx) (id:Int) (fs:List Fld):Int×ErrV×zx:=
 if atF l id<0∧id≠0 then (0,.num 7,l) else if kp fs = .no then (if 400≤l.many then (0,.num 11,l) else (l.next,.no,insL l (atF l id+1).toNat (qhy fs))) else (0,kp fs,l)
structure LB (n:Nat) (l:zx):Prop where
 small:n<900000
 len:l.ents.length≤n
 nx0:1≤l.next
 nx1:l.next≤n+1
 mn0 : -(n:Int)≤l.many
 mn1:l.many≤n
theorem q5u {n:Nat} {l:zx} (h:LB n l) (hs:n+1<900000) (id:Int) (fs:List Fld):LB (n+1) (qf2 l id fs).2:=by
 have h1:=h.len;have h2:=h.nx0;have h3:=h.nx1;have h4:=h.mn0;have h5:=h.mn1
 unfold qf2
 split
 ·exact⟨hs,by simp only;omega,h2,by simp only;omega,by simp only;omega,by simp only;omega⟩
 ·split
  ·unfold q0w
   split
   ·exact⟨hs,by simp;omega,h2,by simp only;omega,by simp only;omega,by simp only;omega⟩
   ·exact⟨hs,by simp only;omega,h2,by simp only;omega,by simp only;omega,by simp only;omega⟩
  ·exact⟨hs,by simp only;omega,h2,by simp only;omega,by simp only;omega,by simp only;omega⟩
theorem q8p {n:Nat} {l:zx} (h:LB n l) (hs:n+1<900000) (id:Int):LB (n+1) (delF l id).2:=by
 have h1:=h.len;have h2:=h.nx0;have h3:=h.nx1;have h4:=h.mn0;have h5:=h.mn1
 unfold delF
 split
 ·exact⟨hs,by simp only;omega,h2,by simp only;omega,by simp only;omega,by simp only;omega⟩
 ·exact⟨hs,by simp [delL];omega,h2,by simp only [delL];omega,by simp only [delL];omega,by simp only [delL];omega⟩
theorem q8w {n:Nat} {l:zx} (h:LB n l) (hs:n+1<900000) (id:Int) (fs:List Fld):LB (n+1) (insF l id fs).2.2:=by
 have h1:=h.len;have h2:=h.nx0;have h3:=h.nx1;have h4:=h.mn0;have h5:=h.mn1
 have same:LB (n+1) l:=⟨hs,by omega,h2,by omega,by omega,by omega⟩
 unfold insF
 split
 ·exact same
 ·split
  ·split
   ·exact same
   ·exact⟨hs,by simp [insL];omega,by simp only [insL];omega,by simp only [insL];omega,by simp only [insL];omega,by simp only [insL];omega⟩
  ·exact same
end Go.Pl
namespace Go.Proofs.YtmoklbacdkmkaaaGreatDoor
open Go Go.Av Go.RowKit Go.Proofs Go.Pl
def oneF (l:zx) (x:qp):Int×ErrV×zx:=if x.kind=1 then (0,qf2 l x.id x.fields) else if x.kind=2 then (0,delF l x.id) else insF l x.id x.fields
theorem qy5 {n:Nat} {l:zx} (h:LB n l) (hs:n+1<900000) (x:qp):LB (n+1) (oneF l x).2.2:=by
 unfold oneF
 split
 ·exact q5u h hs _ _
 ·split
  ·exact q8p h hs _
  ·exact q8w h hs _ _
theorem q7x (l:zx) (hl:l.ents.length<1000000):ku E 72 [.a (qar l)] 0 (hpF []) ⟨.bx 0 0,vl [],lstH 1 l++vw [],2⟩:=by
 refine xq [.a (qar l)] [] 0 (.bx 0 0) (lstH 1 l) 2 Tryz.func72 rfl rfl rfl rfl fun S F ρ=>?_
 apply qh [19]
 repeat' (first|apply And.intro|(intro h;try exact cDd)|exact⟨Tryz.call130⟩|(refine Exists.intro _ ⟨qxs [.sl 4 (l.ents.map entA) none] _ (fun _=>rfl) (fun st=>qz2 l.ents st hl),?_⟩)|exact cSd|apply qb [19]|refine exr ?_|refine qm ?_)
theorem q71 (n:Nat) (l:zx) (id:Int) (fs:List Fld) (hB:LB n l) (hK:KeyB fs) (hl:fs.length<1000000):ku E 131 [.bx 0 0,.i id,.a (kv fs)] 2 (hpF (lstH 1 l)) ⟨.a (errA (qf2 l id fs).1),vl (lstH 1 l),lstH 2 (qf2 l id fs).2++vw (lstH 1 l),3⟩:=by
 refine xq [.bx 0 0,.i id,.a (kv fs)] (lstH 1 l) 2 (.a (errA (qf2 l id fs).1)) (lstH 2 (qf2 l id fs).2) 3 Tryz.func131 rfl rfl rfl rfl fun S F ρ=>?_
 have hle:=hB.len
 have hsm:=hB.small
 have h1:=qrn l id (by omega)
 have h2:=fun st=>qyh fs st hK hl
 unfold qf2
 rcases qv6 l id with h | ⟨i,e,h,he,hid,hid1⟩
 ·rw [h] at h1 ⊢
  rw [if_pos (by decide)]
  apply qh []
  repeat' (first|apply And.intro|(intro h;try exact cDd)|exact⟨Tryz.call69⟩|(refine jh h1 ?_)|exact cSd|apply qb []|refine exr ?_|refine qm ?_)
 ·rw [h] at h1 ⊢
  rw [if_neg (by omega)]
  have hm:(l.ents.map entA)[i]? = some (entA e):=by rw [List.getElem?_map,he];rfl
  have hil:=lt_of_getElem? hm
  unfold qhy at h2 ⊢
  cases hc:kp fs with
  |no=>
   rw [hc,if_pos rfl] at h2
   rw [if_pos rfl,if_pos rfl]
   unfold q0w
   rw [Int.toNat_natCast,he]
   apply qh []
   repeat' (first|apply And.intro|(intro h;try exact cDd)|exact⟨Tryz.call69⟩|(refine jh h1 ?_)|exact⟨Tryz.call186⟩|refine cpe h2 ?_|(refine qnx (i:=i) rfl rfl rfl rfl rfl rfl (by omega) ?_)|(refine q2f (i:=i) (j:=0) (z:=entA e) (z':=entA ⟨⟨3,jy fs,fs⟩,e.id⟩) (u:=yy ⟨3,jy fs,fs⟩) rfl rfl (fun _=>rfl) rfl rfl rfl hm rfl rfl ?_)|exact cSd|apply qb []|refine exr ?_|refine qm ?_)
   all_goals (simp [List.map_set];done)
  |num m=>
   rw [hc,if_neg (by simp)] at h2
   rw [if_neg (by simp)]
   apply qh []
   repeat' (first|apply And.intro|(intro h;try exact cDd)|exact⟨Tryz.call69⟩|(refine jh h1 ?_)|exact⟨Tryz.call186⟩|refine cpe h2 ?_|exact cSd|apply qb []|refine exr ?_|refine qm ?_)
  |at' a m=>
   rw [hc,if_neg (by simp)] at h2
   rw [if_neg (by simp)]
   apply qh []
   repeat' (first|apply And.intro|(intro h;try exact cDd)|exact⟨Tryz.call69⟩|(refine jh h1 ?_)|exact⟨Tryz.call186⟩|refine cpe h2 ?_|exact cSd|apply qb []|refine exr ?_|refine qm ?_)
theorem zaj (n:Nat) (l:zx) (id:Int) (hB:LB n l):ku E 132 [.bx 0 0,.i id] 2 (hpF (lstH 1 l)) ⟨.a (errA (delF l id).1),vl (lstH 1 l),lstH 2 (delF l id).2++vw (lstH 1 l),3⟩:=by
 refine xq [.bx 0 0,.i id] (lstH 1 l) 2 (.a (errA (delF l id).1)) (lstH 2 (delF l id).2) 3 Tryz.func132 rfl rfl rfl rfl fun S F ρ=>?_
 have hle:=hB.len
 have hsm:=hB.small
 have h4:=hB.mn0
 have h5:=hB.mn1
 have h1:=qrn l id (by omega)
 unfold delF
 rcases qv6 l id with h | ⟨i,e,h,he,hid,hid1⟩
 ·rw [h] at h1 ⊢
  rw [if_pos (by decide)]
  apply qh []
  repeat' (first|apply And.intro|(intro h;try exact cDd)|exact⟨Tryz.call69⟩|(refine jh h1 ?_)|exact cSd|apply qb []|refine exr ?_|refine qm ?_)
 ·rw [h] at h1 ⊢
  rw [if_neg (by omega)]
  have hil:=lt_of_getElem? he
  have h2:=qn8 (f:=187) (E:=E) (xs:=l.ents.map entA) [Iv i,Iv ((i:Int)+1)] rfl (fun st c hc=>zaf l.ents i hil (by omega) st c hc)
  unfold delL
  rw [Int.toNat_natCast]
  apply qh []
  repeat' (first|apply And.intro|(intro h;try exact cDd)|exact⟨Tryz.call69⟩|(refine jh h1 ?_)|exact⟨Tryz.call187⟩|(refine jh h2 ?_)|exact cSd|apply qb []|refine exr ?_|refine qm ?_)
theorem q98 (n:Nat) (l:zx) (id:Int) (fs:List Fld) (hB:LB n l) (hK:KeyB fs) (hl:fs.length<1000000):ku E 133 [.bx 0 0,.i id,.a (kv fs)] 2 (hpF (lstH 1 l)) ⟨.tu [.i (insF l id fs).1,.a (errA (insF l id fs).2.1)],vl (lstH 1 l),lstH 2 (insF l id fs).2.2++vw (lstH 1 l),3⟩:=by
 refine xq [.bx 0 0,.i id,.a (kv fs)] (lstH 1 l) 2 (.tu [.i (insF l id fs).1,.a (errA (insF l id fs).2.1)]) (lstH 2 (insF l id fs).2.2) 3 Tryz.func133 rfl rfl rfl rfl fun S F ρ=>?_
 have hle:=hB.len
 have hsm:=hB.small
 have h4:=hB.mn0
 have h5:=hB.mn1
 have h6:=hB.nx0
 have h7:=hB.nx1
 have h1:=qrn l id (by omega)
 have h2:=fun st=>qyh fs st hK hl
 unfold insF
 rcases qv6 l id with h | ⟨i,e,h,he,hid,hid1⟩
 ·rw [h] at h1 ⊢
  by_cases h0:id=0
  ·rw [if_neg (fun q=>q.2 h0)]
   rw [show ((-1:Int)+1).toNat=0 from rfl]
   unfold qhy at h2 ⊢
   cases hc:kp fs with
   |no=>
    rw [hc,if_pos rfl] at h2
    rw [if_pos rfl,if_pos rfl]
    by_cases hm:400≤l.many
    ·rw [if_pos hm]
     apply qh []
     repeat' (first|apply And.intro|(intro h;try exact cDd)|exact⟨Tryz.call69⟩|(refine jh h1 ?_)|exact⟨Tryz.call186⟩|refine cpe h2 ?_|exact cSd|apply qb []|refine exr ?_|refine qm ?_)
    ·rw [if_neg hm]
     have h3:=qn8 (f:=188) (E:=E) (xs:=l.ents.map entA) [Iv ((0:Nat):Int),.sl 4 [entA ⟨⟨3,jy fs,fs⟩,l.next⟩] none] rfl (fun st c hc=>q2h l.ents ⟨⟨3,jy fs,fs⟩,l.next⟩ (0) (by omega) (by omega) st c hc)
     unfold insL
     apply qh []
     repeat' (first|apply And.intro|(intro h;try exact cDd)|exact⟨Tryz.call69⟩|(refine jh h1 ?_)|exact⟨Tryz.call186⟩|refine cpe h2 ?_|exact⟨Tryz.call188⟩|(refine jh h3 ?_)|exact cSd|apply qb []|refine exr ?_|refine qm ?_)
   |num m=>
    rw [hc,if_neg (by simp)] at h2
    rw [if_neg (by simp)]
    apply qh []
    repeat' (first|apply And.intro|(intro h;try exact cDd)|exact⟨Tryz.call69⟩|(refine jh h1 ?_)|exact⟨Tryz.call186⟩|refine cpe h2 ?_|exact cSd|apply qb []|refine exr ?_|refine qm ?_)
   |at' a m=>
    rw [hc,if_neg (by simp)] at h2
    rw [if_neg (by simp)]
    apply qh []
    repeat' (first|apply And.intro|(intro h;try exact cDd)|exact⟨Tryz.call69⟩|(refine jh h1 ?_)|exact⟨Tryz.call186⟩|refine cpe h2 ?_|exact cSd|apply qb []|refine exr ?_|refine qm ?_)
  ·rw [if_pos ⟨by decide,h0⟩]
   apply qh []
   repeat' (first|apply And.intro|(intro h;try exact cDd)|exact⟨Tryz.call69⟩|(refine jh h1 ?_)|exact cSd|apply qb []|refine exr ?_|refine qm ?_)
 ·rw [h] at h1 ⊢
  have hil:=lt_of_getElem? he
  rw [if_neg (fun q=>absurd q.1 (by omega))]
  rw [show ((i:Int)+1).toNat=i+1 from rfl]
  unfold qhy at h2 ⊢
  cases hc:kp fs with
  |no=>
   rw [hc,if_pos rfl] at h2
   rw [if_pos rfl,if_pos rfl]
   by_cases hm:400≤l.many
   ·rw [if_pos hm]
    apply qh []
    repeat' (first|apply And.intro|(intro h;try exact cDd)|exact⟨Tryz.call69⟩|(refine jh h1 ?_)|exact⟨Tryz.call186⟩|refine cpe h2 ?_|exact cSd|apply qb []|refine exr ?_|refine qm ?_)
   ·rw [if_neg hm]
    have h3:=qn8 (f:=188) (E:=E) (xs:=l.ents.map entA) [Iv ((i+1:Nat):Int),.sl 4 [entA ⟨⟨3,jy fs,fs⟩,l.next⟩] none] rfl (fun st c hc=>q2h l.ents ⟨⟨3,jy fs,fs⟩,l.next⟩ (i+1) (by omega) (by omega) st c hc)
    unfold insL
    apply qh []
    repeat' (first|apply And.intro|(intro h;try exact cDd)|exact⟨Tryz.call69⟩|(refine jh h1 ?_)|exact⟨Tryz.call186⟩|refine cpe h2 ?_|exact⟨Tryz.call188⟩|(refine jh h3 ?_)|exact cSd|apply qb []|refine exr ?_|refine qm ?_)
  |num m=>
   rw [hc,if_neg (by simp)] at h2
   rw [if_neg (by simp)]
   apply qh []
   repeat' (first|apply And.intro|(intro h;try exact cDd)|exact⟨Tryz.call69⟩|(refine jh h1 ?_)|exact⟨Tryz.call186⟩|refine cpe h2 ?_|exact cSd|apply qb []|refine exr ?_|refine qm ?_)
  |at' a m=>
   rw [hc,if_neg (by simp)] at h2
   rw [if_neg (by simp)]
   apply qh []
   repeat' (first|apply And.intro|(intro h;try exact cDd)|exact⟨Tryz.call69⟩|(refine jh h1 ?_)|exact⟨Tryz.call186⟩|refine cpe h2 ?_|exact cSd|apply qb []|refine exr ?_|refine qm ?_)
def qgb:Nat→List qp→zx→List Int→ErrV×zx×List Int
 | _,[],l,ids=>(.no,l,ids)
 |k,x::r,l,ids=>if (oneF l x).2.1 = .no then qgb (k+1) r (oneF l x).2.2 (if 0<(oneF l x).1 then ids++[(oneF l x).1] else ids) else (.at' k (oneF l x).2.1.code,l,ids)
def doF (l:zx) (b:List qp):ErrV×zx×List Int:=if eErr b = .no then qgb 0 b l [] else (eErr b,l,[])
def doA (r:ErrV×zx×List Int):AV:=match r.1 with
 | .no=>.tu [qar r.2.1,qdg r.2.2,errA .no]
 |e=>.tu [.v (.pointer none),qdg [],errA e]
theorem q54 (r:ErrV×zx×List Int):Pure (doA r):=by
 unfold doA
 split
 ·exact qky (qgy _) (qe7 _) (vj _)
 ·exact qky (q6 _) (qe7 _) (vj _)
theorem q4k {l:zx} {x:qp} (h:(oneF l x).2.1≠.no):(oneF l x).2.1.code≠0:=by
 have key:∀ fs:List Fld,kp fs≠.no→(kp fs).code≠0:=fun fs h h'=>h ((qlr fs).1 h')
 unfold oneF at h ⊢
 split
 ·rename_i h1
  rw [if_pos h1] at h
  unfold qf2 at h ⊢
  split
  ·exact (by decide:(ErrV.num 7).code≠0)
  ·rename_i h2
   rw [if_neg h2] at h
   split
   ·rename_i h3
    rw [if_pos h3] at h
    exact absurd rfl h
   ·exact key _ (by assumption)
 ·rename_i h1
  rw [if_neg h1] at h
  split
  ·rename_i h2
   rw [if_pos h2] at h
   unfold delF at h ⊢
   split
   ·exact (by decide:(ErrV.num 7).code≠0)
   ·rename_i h3
    rw [if_neg h3] at h
    exact absurd rfl h
  ·rename_i h2
   rw [if_neg h2] at h
   unfold insF at h ⊢
   split
   ·exact (by decide:(ErrV.num 7).code≠0)
   ·rename_i h3
    rw [if_neg h3] at h
    split
    ·rename_i h4
     rw [if_pos h4] at h
     split
     ·exact (by decide:(ErrV.num 11).code≠0)
     ·rename_i h5
      rw [if_neg h5] at h
      exact absurd rfl h
    ·exact key _ (by assumption)
theorem q9y (n:Nat) (l:zx) (x:qp) (hB:LB n l) (hK:KeyB x.fields) (hl:x.fields.length<1000000):ku E 73 [.bx 0 0,.a (wy x)] 2 (hpF (lstH 1 l)) ⟨.tu [.i (oneF l x).1,.a (errA (oneF l x).2.1)],vl (lstH 1 l),lstH 2 (oneF l x).2.2++vw (lstH 1 l),3⟩:=by
 refine xq [.bx 0 0,.a (wy x)] (lstH 1 l) 2 (.tu [.i (oneF l x).1,.a (errA (oneF l x).2.1)]) (lstH 2 (oneF l x).2.2) 3 Tryz.func73 rfl rfl rfl rfl fun S F ρ=>?_
 unfold oneF
 by_cases h1:x.kind=1
 ·rw [if_pos h1]
  have hc:=q71 n l x.id x.fields hB hK hl
  generalize qf2 l x.id x.fields=r at hc
  apply qh []
  repeat' (first|apply And.intro|(intro h;try exact cDd)|exact⟨Tryz.call131⟩|(refine jh hc ?_)|exact cSd|apply qb []|refine exr ?_|refine qm ?_)
 ·rw [if_neg h1]
  by_cases h2:x.kind=2
  ·rw [if_pos h2]
   have hc:=zaj n l x.id hB
   generalize delF l x.id=r at hc
   apply qh []
   repeat' (first|apply And.intro|(intro h;try exact cDd)|exact⟨Tryz.call132⟩|(refine jh hc ?_)|exact cSd|apply qb []|refine exr ?_|refine qm ?_)
  ·rw [if_neg h2]
   have hc:=q98 n l x.id x.fields hB hK hl
   generalize insF l x.id x.fields=r at hc
   apply qh []
   repeat' (first|apply And.intro|(intro h;try exact cDd)|exact⟨Tryz.call133⟩|(refine jh hc ?_)|exact cSd|apply qb []|refine exr ?_|refine qm ?_)
theorem qz6 (n:Nat) (l:zx) (b:List qp) (st:List AObj) (hB:LB n l) (hn:n+40<900000) (hE:∀ x∈b,EdB x) (hl:b.length<1000000):qn E 27 [qar l,jk b] st fun r st'=>r=doA (doF l b)∧st'=st:=by
 refine qol [.a (qar l),.a (jk b)] (q54 _) Tryz.func27 rfl rfl (fun _=>rfl) rfl fun S0=>?_
 have hck:=fun st=>qkw b st _ rfl hE (by omega)
 unfold doF
 cases he:eErr b with
 |num m=>
  rw [he] at hck
  rw [if_neg (by simp)]
  apply qh []
  repeat' (first|apply And.intro|(intro h;try exact cDd)|exact⟨Tryz.call71⟩|refine cpe hck ?_|exact cSd|apply qb []|refine exr ?_|refine qm ?_)
 |at' a m=>
  rw [he] at hck
  rw [if_neg (by simp)]
  apply qh []
  repeat' (first|apply And.intro|(intro h;try exact cDd)|exact⟨Tryz.call71⟩|refine cpe hck ?_|exact cSd|apply qb []|refine exr ?_|refine qm ?_)
 |no=>
  rw [he] at hck
  rw [if_pos rfl]
  obtain⟨hb1,hb40,hg⟩:=qfu he
  have hcp:=q7x l (by have:=hB.len;omega)
  apply qh []
  repeat' (first|apply And.intro|(intro h;try exact cDd)|exact⟨Tryz.call71⟩|refine cpe hck ?_|exact⟨Tryz.call72⟩|(refine jh hcp ?_)|exact cSd|apply qb []|refine exr ?_|refine qm ?_)
  refine yt (X:=Nat×zx×List Int) (fun (k,q,ids)=>⟨[(8,.bx 0 0),(9,.tp 2),(21,.a (jk b)),(22,.i b.length),(23,.i k)],[(0,some (.cells 112 [.tp 1,.i q.next,.i q.many])),(1,some (.own 4 139 (q.ents.map entA))),(2,some (.tip 1 3 (ids.map fun x=>Iv x)))],3⟩)
   (fun (k,q,ids)=>k≤b.length∧LB (n+k) q∧ids.length≤k∧qgb k (b.drop k) q ids=qgb 0 b l []) (fun (k,q,ids)=>b.length - k) (0,l,[]) ⟨by omega,hB,by simp,rfl⟩ ?_ ?_
  ·skip
   repeat' (first|apply And.intro|(intro h;try exact cDd)|exact cSd|apply qb []|refine exr ?_|refine qm ?_)
   all_goals (simp;done)
  ·rintro⟨k,q,ids⟩ ⟨hk,hq,hil,hrun⟩
   by_cases hkn:k<b.length
   ·have hx:b[k]? = some b[k]:=List.getElem?_eq_getElem hkn
    have hxm:(b.map wy)[k]? = some (wy b[k]):=by rw [List.getElem?_map,hx];rfl
    have hxE:=hE b[k] (List.getElem_mem hkn)
    have hxf:=(qmq (hg b[k] (List.getElem_mem hkn))).1
    rw [List.drop_eq_getElem_cons hkn,qgb] at hrun
    have hidl:(ids.map fun x=>Iv x).length=ids.length:=by simp
    generalize b[k]=x at hx hxm hxE hxf hrun
    have hon:=q9y (n+k) q x hq hxE.keys (by omega)
    have hlb:=qy5 hq (by omega) x
    have hcd:=fun h=>q4k (l:=q) (x:=x) h
    generalize oneF q x=o at hon hlb hcd hrun
    obtain⟨id,e,q'⟩:=o
    dsimp only at hon hlb hcd hrun
    cases e with
    |no=>
     rw [if_pos rfl] at hrun
     by_cases h0:0<id
     ·rw [if_pos h0] at hrun
      apply qh []
      repeat' (first|apply And.intro|(intro h;try exact cDd)|(refine Exists.intro (k) ⟨by omega,_,hxm,?_⟩)|exact⟨Tryz.call73⟩|(refine jh hon ?_)|(refine Exists.intro (k+1,q',ids++[id]) ⟨⟨by omega,hlb,by simp;omega,hrun⟩,by simp only;omega,?_⟩)|exact cSd|apply qb []|refine exr ?_|refine qm ?_)
      all_goals first|(simp;done)|(simp;omega)
     ·rw [if_neg h0] at hrun
      apply qh []
      repeat' (first|apply And.intro|(intro h;try exact cDd)|(refine Exists.intro (k) ⟨by omega,_,hxm,?_⟩)|exact⟨Tryz.call73⟩|(refine jh hon ?_)|(refine Exists.intro (k+1,q',ids) ⟨⟨by omega,hlb,by first|omega|(simp only;omega),hrun⟩,by simp only;omega,?_⟩)|exact cSd|apply qb []|refine exr ?_|refine qm ?_)
      all_goals first|(simp;done)|(simp;omega)
    |num m=>
     rw [if_neg (by simp)] at hrun
     rw [← hrun]
     have hft:=fun st=>qkz k (.num m) st (hcd (by simp))
     apply qh []
     repeat' (first|apply And.intro|(intro h;try exact cDd)|(refine Exists.intro (k) ⟨by omega,_,hxm,?_⟩)|exact⟨Tryz.call73⟩|(refine jh hon ?_)|exact⟨Tryz.call74⟩|refine cpe hft ?_|exact cSd|apply qb []|refine exr ?_|refine qm ?_)
    |at' a m=>
     rw [if_neg (by simp)] at hrun
     rw [← hrun]
     have hft:=fun st=>qkz k (.at' a m) st (hcd (by simp))
     apply qh []
     repeat' (first|apply And.intro|(intro h;try exact cDd)|(refine Exists.intro (k) ⟨by omega,_,hxm,?_⟩)|exact⟨Tryz.call73⟩|(refine jh hon ?_)|exact⟨Tryz.call74⟩|refine cpe hft ?_|exact cSd|apply qb []|refine exr ?_|refine qm ?_)
   ·have hkn:k=b.length:=by omega
    subst hkn
    rw [List.drop_length,qgb] at hrun
    rw [← hrun]
    apply qh []
    repeat' (first|apply And.intro|(intro h;try exact cDd)|exact cSd|apply qb []|refine exr ?_|refine qm ?_)
structure RunV where
 l:zx
 given:List (List Int)
 touched:List Int
def qbh (b:List qp):List Int:=(b.filter fun x=>decide (x.kind≠3)).map fun x=>x.id
def qd7 (r:RunV) (b:List qp):RunV:=⟨(doF r.l b).2.1,r.given++[(doF r.l b).2.2],r.touched++qbh b⟩
def qbx:List (List qp)→RunV→ErrV×RunV
 | [],r=>(.no,r)
 |b::q,r=>if (doF r.l b).1 = .no then qbx q (qd7 r b) else (.at' r.given.length 10,r)
def y4 (base:Bytes) (bs:List (List qp)):ErrV×RunV:=if xx base = .no then qbx bs ⟨ofF (itsE base),[],[]⟩ else (xx base,⟨ofF [],[],[]⟩)
@[reducible] def q4w (g : List (List Int)) : AV := .sl 1 (g.map qdg) none
@[reducible] def runA (r : RunV) : AV := .pp [qar r.l, q4w r.given, qdg r.touched]
def qzz (r:ErrV×RunV):AV:=match r.1 with
 | .no=>.tu [runA r.2,errA .no]
 |e=>.tu [.v (.pointer none),errA e]
theorem qxx (g:List (List Int)):Pure (q4w g):=qdd fun x hx=>by
 obtain⟨f,_,rfl⟩:=List.mem_map.1 hx
 intro y hy
 simp only [AV.cells,List.mem_cons,List.not_mem_nil,or_false] at hy
 rw [hy]
 exact qe7 f
theorem q1f (r:ErrV×RunV):Pure (qzz r):=by
 unfold qzz
 split
 ·exact va (qrq fun x hx=>by
   simp only [List.mem_cons,List.not_mem_nil,or_false] at hx
   rcases hx with rfl|rfl|rfl
   ·exact qgy _
   ·exact qxx _
   ·exact qe7 _) (vj _)
 ·exact va (q6 _) (vj _)
theorem qjw {n m:Nat} {l:zx} (h:LB n l) (hm:n≤m) (hs:m<900000):LB m l:=by
 have h1:=h.len;have h2:=h.nx0;have h3:=h.nx1;have h4:=h.mn0;have h5:=h.mn1
 exact⟨hs,by omega,h2,by omega,by omega,by omega⟩
theorem qrx:∀ (b:List qp) (k n:Nat) (l:zx) (ids:List Int),LB n l→n+b.length<900000→LB (n+b.length) (qgb k b l ids).2.1
 | [],k,n,l,ids,h,_=>h
 |x::r,k,n,l,ids,h,hs=>by
  simp only [List.length_cons] at hs ⊢
  unfold qgb
  split
  ·have:=qrx r (k+1) (n+1) (oneF l x).2.2 (if 0<(oneF l x).1 then ids++[(oneF l x).1] else ids) (qy5 h (by omega) x) (by omega)
   rw [show n+(r.length+1)=n+1+r.length by omega]
   exact this
  ·have h1:=h.len;have h2:=h.nx0;have h3:=h.nx1;have h4:=h.mn0;have h5:=h.mn1
   exact⟨by omega,by simp only;omega,h2,by simp only;omega,by simp only;omega,by simp only;omega⟩
theorem q15 {n:Nat} {l:zx} (h:LB n l) (hs:n+40<900000) (b:List qp):LB (n+40) (doF l b).2.1:=by
 unfold doF
 split
 ·rename_i he
  obtain⟨h1,h2,_⟩:=qfu he
  exact qjw (qrx b 0 n l [] h (by omega)) (by omega) hs
 ·exact qjw h (by omega) hs
theorem q2p:∀ (its:List j6) (n:Nat) (l:zx),LB n l→n+its.length<900000→LB (n+its.length) (its.foldl qjy l)
 | [],n,l,h,_=>h
 |x::r,n,l,h,hs=>by
  simp only [List.length_cons] at hs ⊢
  rw [List.foldl_cons,show n+(r.length+1)=n+1+r.length by omega]
  refine q2p r (n+1) _ ?_ (by omega)
  have h1:=h.len;have h2:=h.nx0;have h3:=h.nx1;have h4:=h.mn0;have h5:=h.mn1
  unfold qjy
  split
  ·exact⟨by omega,by simp;omega,by simp only;omega,by simp only;omega,by simp only;omega,by simp only;omega⟩
  ·exact⟨by omega,by simp;omega,h2,by simp only;omega,by simp only;omega,by simp only;omega⟩
theorem q3r (text:Bytes):LB 300000 (ofF (itsE text)):=by
 have h:=qur text
 have:=q2p (itsE text) 0 ⟨[],1,0⟩ ⟨by omega,by simp,by simp,by simp,by simp,by simp⟩ (by omega)
 exact qjw this (by omega) (by omega)
@[reducible] def runH (a : Nat) (r : RunV) : List (Nat × Option SR) := [(0, some (.cells 134 [.a (qar r.l), .tp a, .tp (a + 1)])), (a, some (.tip 1 24 (r.given.map qdg))), (a + 1, some (.tip 1 3 (r.touched.map fun x => Iv x)))]
def BB (b:List qp):Prop:=b.length<1000000∧∀ x∈b,EdB x
theorem q82 (n:Nat) (r:RunV) (b:List qp) (hB:LB n r.l) (hn:n+40<900000) (hg:r.given.length<1000000) (ht:r.touched.length<100000000) (hb:BB b) (hok:(doF r.l b).1 = .no):ku E 126 [.bx 0 0,.a (jk b)] 3 (hpF (runH 1 r)) ⟨.a (.v .nilIface),vl (runH 1 r),runH 3 (qd7 r b)++vw (runH 1 r),5⟩:=by
 refine xq [.bx 0 0,.a (jk b)] (runH 1 r) 3 (.a (.v .nilIface)) (runH 3 (qd7 r b)) 5 Tryz.func126 rfl rfl rfl rfl fun S F ρ=>?_
 have hdo:=fun st=>qz6 n r.l b st hB hn hb.2 hb.1
 unfold qd7
 generalize doF r.l b=d at hdo hok
 obtain⟨e,l',ids⟩:=d
 simp only at hok
 subst hok
 have hgl:(r.given.map qdg).length=r.given.length:=by simp
 have hbl:=hb.1
 apply qh []
 repeat' (first|apply And.intro|(intro h;try exact cDd)|exact⟨Tryz.call27⟩|refine cpe hdo ?_|exact cSd|apply qb []|refine exr ?_|refine qm ?_)
 refine yt (X:=Nat) (fun k=>⟨[(0,.bx 0 0),(45,.a (jk b)),(46,.i b.length),(47,.i k)],[(0,some (.cells 134 [.a (qar l'),.tp 3,.tp 4])),(3,some (.tip 1 24 ((r.given++[ids]).map qdg))),(4,some (.tip 1 3 ((r.touched++qbh (b.take k)).map fun x=>Iv x)))],5⟩)
  (fun k=>k≤b.length) (fun k=>b.length - k) 0 (by omega) ?_ ?_
 ·skip
  repeat' (first|apply And.intro|(intro h;try exact cDd)|exact cSd|apply qb []|refine exr ?_|refine qm ?_)
  all_goals (simp [qbh];done)
 ·rintro k hk
  by_cases hkn:k<b.length
  ·have hx:b[k]? = some b[k]:=List.getElem?_eq_getElem hkn
   have hxm:(b.map wy)[k]? = some (wy b[k]):=by rw [List.getElem?_map,hx];rfl
   have htk:b.take (k+1)=b.take k++[b[k]]:=by rw [List.take_add_one,hx];rfl
   have htl:(qbh (b.take k)).length≤k:=by
    unfold qbh
    rw [List.length_map]
    exact Nat.le_trans (List.length_filter_le _ _) (by simp;omega)
   generalize b[k]=x at hx hxm htk
   by_cases h3:x.kind=3
   ·have e:qbh (b.take (k+1))=qbh (b.take k):=by rw [htk];simp [qbh,h3]
    apply qh []
    repeat' (first|apply And.intro|(intro h;try exact cDd)|(refine Exists.intro (k) ⟨by omega,_,hxm,?_⟩)|(refine Exists.intro (k+1) ⟨by omega,by omega,?_⟩)|exact cSd|apply qb []|refine exr ?_|refine qm ?_)
    all_goals (rw [e];done)
   ·have e:qbh (b.take (k+1))=qbh (b.take k)++[x.id]:=by rw [htk];simp [qbh,h3]
    apply qh []
    repeat' (first|apply And.intro|(intro h;try exact cDd)|(refine Exists.intro (k) ⟨by omega,_,hxm,?_⟩)|(refine Exists.intro (k+1) ⟨by omega,by omega,?_⟩)|exact cSd|apply qb []|refine exr ?_|refine qm ?_)
    all_goals first|(rw [e];simp;done)|(simp;omega)
  ·have hkn:k=b.length:=by omega
   subst hkn
   rw [List.take_length]
   apply qh []
   repeat' (first|apply And.intro|(intro h;try exact cDd)|exact cSd|apply qb []|refine exr ?_|refine qm ?_)
theorem q6z (n:Nat) (r:RunV) (b:List qp) (hB:LB n r.l) (hn:n+40<900000) (hg:r.given.length<1000000) (hb:BB b) (hok:(doF r.l b).1≠.no):ku E 126 [.bx 0 0,.a (jk b)] 3 (hpF (runH 1 r)) ⟨.a (errA (.at' r.given.length 10)),vl (runH 1 r),runH 3 r++vw (runH 1 r),5⟩:=by
 refine xq [.bx 0 0,.a (jk b)] (runH 1 r) 3 (.a (errA (.at' r.given.length 10))) (runH 3 r) 5 Tryz.func126 rfl rfl rfl rfl fun S F ρ=>?_
 have hdo:=fun st=>qz6 n r.l b st hB hn hb.2 hb.1
 have hgl:(r.given.map qdg).length=r.given.length:=by simp
 generalize doF r.l b=d at hdo hok
 obtain⟨e,l',ids⟩:=d
 simp only at hok
 cases e with
 |no=>exact absurd rfl hok
 |num m=>
  apply qh []
  repeat' (first|apply And.intro|(intro h;try exact cDd)|exact⟨Tryz.call27⟩|refine cpe hdo ?_|exact cSd|apply qb []|refine exr ?_|refine qm ?_)
  all_goals (rw [hgl];rfl)
 |at' a m=>
  apply qh []
  repeat' (first|apply And.intro|(intro h;try exact cDd)|exact⟨Tryz.call27⟩|refine cpe hdo ?_|exact cSd|apply qb []|refine exr ?_|refine qm ?_)
  all_goals (rw [hgl];rfl)
theorem q8e (base:Bytes) (bs:List (List qp)) (st:List AObj) (hl:base.length<1000000) (hn:bs.length≤14000) (hb:∀ b∈bs,BB b∧b.length≤5000):qn E 67 [Sv base,qc9 bs] st fun r st'=>r=qzz (y4 base bs)∧st'=st:=by
 refine qol [.s base,.a (qc9 bs)] (q1f _) Tryz.func67 rfl rfl (fun _=>rfl) rfl fun S0=>?_
 have hof:=fun st=>qwq base st hl
 have hlb:=q3r base
 unfold y4
 generalize itsE base=its at hof hlb
 cases he:xx base with
 |num m=>
  rw [he] at hof
  rw [if_neg (by simp)]
  apply qh [22]
  repeat' (first|apply And.intro|(intro h;try exact cDd)|exact⟨Tryz.call87⟩|refine cpe hof ?_|exact cSd|apply qb [22]|refine exr ?_|refine qm ?_)
 |at' a m=>
  rw [he] at hof
  rw [if_neg (by simp)]
  apply qh [22]
  repeat' (first|apply And.intro|(intro h;try exact cDd)|exact⟨Tryz.call87⟩|refine cpe hof ?_|exact cSd|apply qb [22]|refine exr ?_|refine qm ?_)
 |no=>
  rw [he] at hof
  rw [if_pos rfl]
  apply qh [22]
  repeat' (first|apply And.intro|(intro h;try exact cDd)|exact⟨Tryz.call87⟩|refine cpe hof ?_|exact cSd|apply qb [22]|refine exr ?_|refine qm ?_)
  refine yt (X:=Nat×RunV) (fun (k,r)=>⟨[(8,.bx 0 0),(23,.a (qc9 bs)),(24,.i bs.length),(25,.i k)],[(0,some (.cells 134 [.a (qar r.l),.tp 1,.tp 2])),(1,some (.tip 1 24 (r.given.map qdg))),(2,some (.tip 1 3 (r.touched.map fun x=>Iv x)))],3⟩)
   (fun (k,r)=>k≤bs.length∧LB (300000+40 * k) r.l∧r.given.length=k∧r.touched.length≤5000 * k∧qbx (bs.drop k) r=qbx bs ⟨ofF its,[],[]⟩) (fun (k,r)=>bs.length - k) (0,⟨ofF its,[],[]⟩) ⟨by omega,hlb,rfl,by simp,rfl⟩ ?_ ?_
  ·skip
   repeat' (first|apply And.intro|(intro h;try exact cDd)|exact cSd|apply qb []|refine exr ?_|refine qm ?_)
   all_goals (simp;done)
  ·rintro⟨k,r⟩ ⟨hk,hq,hgl,htl,hrun⟩
   by_cases hkn:k<bs.length
   ·have hx:bs[k]? = some bs[k]:=List.getElem?_eq_getElem hkn
    have hxm:(bs.map jk)[k]? = some (jk bs[k]):=by rw [List.getElem?_map,hx];rfl
    obtain⟨hbb,hb5⟩:=hb bs[k] (List.getElem_mem hkn)
    rw [List.drop_eq_getElem_cons hkn,qbx] at hrun
    generalize bs[k]=b at hx hxm hbb hb5 hrun
    have hlb2:=q15 hq (by omega) b
    by_cases hok:(doF r.l b).1 = .no
    ·rw [if_pos hok] at hrun
     have htk:=q82 (300000+40 * k) r b hq (by omega) (by omega) (by omega) hbb hok
     have hgl2:(qd7 r b).given.length=k+1:=by simp [qd7,hgl]
     have htl2:(qd7 r b).touched.length≤5000 * (k+1):=by
      have:(qbh b).length≤b.length:=by
       unfold qbh
       rw [List.length_map]
       exact List.length_filter_le _ _
      simp only [qd7,List.length_append]
      omega
     have hlb3:LB (300000+40 * (k+1)) (qd7 r b).l:=qjw hlb2 (by omega) (by omega)
     generalize qd7 r b=r2 at htk hrun hgl2 htl2 hlb3
     apply qh []
     repeat' (first|apply And.intro|(intro h;try exact cDd)|(refine Exists.intro (k) ⟨by omega,_,hxm,?_⟩)|exact⟨Tryz.call126⟩|(refine jh htk ?_)|(refine Exists.intro (k+1,r2) ⟨⟨by omega,hlb3,hgl2,htl2,hrun⟩,by simp only;omega,?_⟩)|exact cSd|apply qb []|refine exr ?_|refine qm ?_)
    ·rw [if_neg hok] at hrun
     rw [← hrun]
     have htk:=q6z (300000+40 * k) r b hq (by omega) (by omega) hbb hok
     apply qh []
     repeat' (first|apply And.intro|(intro h;try exact cDd)|(refine Exists.intro (k) ⟨by omega,_,hxm,?_⟩)|exact⟨Tryz.call126⟩|(refine jh htk ?_)|exact cSd|apply qb []|refine exr ?_|refine qm ?_)
   ·have hkn:k=bs.length:=by omega
    subst hkn
    rw [List.drop_length,qbx] at hrun
    rw [← hrun]
    apply qh []
    repeat' (first|apply And.intro|(intro h;try exact cDd)|exact cSd|apply qb []|refine exr ?_|refine qm ?_)
structure BkB (b:vr):Prop where
 base:b.base.length<1000000
 len:b.batches.length≤14000
 bat:∀ x∈b.batches,BB x∧x.length≤5000
theorem qs0 (b:List qp):9≤(recE b).length:=by
 unfold recE recF qiz
 simp [zw]
 omega
theorem qp7:∀ r:List (List qp),9 * r.length≤(zo r).length
 | []=>by simp [zo]
 |b::r=>by
  have h1:=qp7 r
  have h2:=qs0 b
  rw [km]
  simp only [List.length_append,List.length_cons]
  omega
theorem qu1 {text:Bytes} {b:vr} (h:xm text b):BkB b:=by
 have h1:=congrArg List.length h.split
 have h2:=h.len
 have h3:=qp7 b.batches
 simp only [List.length_append,zi] at h1
 refine⟨by omega,by omega,fun x hx=>?_⟩
 obtain⟨g1,g2,_⟩:=qfu (h.good x hx).ok
 exact⟨⟨by omega,(h.good x hx).B⟩,by omega⟩
def qjs (b:vr) (n:Int):ErrV×RunV:=if n<0∨(b.batches.length:Int)<n then (.num 1,⟨ofF [],[],[]⟩) else y4 b.base (b.batches.take n.toNat)
theorem q3g (b:vr) (n:Int) (st:List AObj) (hB:BkB b):qn E 23 [qe0 b,Iv n] st fun r st'=>r=qlx (qjs b n).1 (qjs b n).2.l∧st'=st:=by
 refine vc [.a (qe0 b),.i n] (qjj _ _) Tryz.func23 rfl rfl (fun _=>rfl) rfl fun S0=>?_
 have hbl:=hB.len
 have hml:(b.batches.map jk).length=b.batches.length:=by simp
 unfold qjs
 by_cases hn:n<0∨(b.batches.length:Int)<n
 ·rw [if_pos hn]
  apply qh []
  repeat' (first|apply And.intro|(intro h;try exact cDd)|exact cSd|apply qb []|refine exr ?_|refine qm ?_)
 ·rw [if_neg hn]
  obtain⟨k,rfl⟩:∃ k:Nat,n=(k:Int):=⟨n.toNat,by omega⟩
  rw [Int.toNat_natCast]
  have hp:=fun st=>q8e b.base (b.batches.take k) st hB.base (by simp;omega) (fun x hx=>hB.bat x (List.mem_of_mem_take hx))
  unfold qc9 at hp
  rw [List.map_take] at hp
  generalize y4 b.base (b.batches.take k)=p at hp
  obtain⟨e,r⟩:=p
  cases e with
  |no=>
   apply qh []
   repeat' (first|apply And.intro|(intro h;try exact cDd)|exact⟨Tryz.call67⟩|refine cpe hp ?_|exact cSd|apply qb []|refine exr ?_|refine qm ?_)
  |num m=>
   apply qh []
   repeat' (first|apply And.intro|(intro h;try exact cDd)|exact⟨Tryz.call67⟩|refine cpe hp ?_|exact cSd|apply qb []|refine exr ?_|refine qm ?_)
  |at' a m=>
   apply qh []
   repeat' (first|apply And.intro|(intro h;try exact cDd)|exact⟨Tryz.call67⟩|refine cpe hp ?_|exact cSd|apply qb []|refine exr ?_|refine qm ?_)
theorem zat (b:vr) (st:List AObj) (hB:BkB b):qn E 24 [qe0 b] st fun r st'=>r=qlx (y4 b.base b.batches).1 (y4 b.base b.batches).2.l∧st'=st:=by
 refine vc [.a (qe0 b)] (qjj _ _) Tryz.func24 rfl rfl (fun _=>rfl) rfl fun S0=>?_
 have hml:(b.batches.map jk).length=b.batches.length:=by simp
 have e:qjs b (((b.batches.map jk).length:Nat):Int)=y4 b.base b.batches:=by
  unfold qjs
  rw [hml,if_neg (by omega),Int.toNat_natCast,List.take_length]
 have hp:=fun st=>q3g b (((b.batches.map jk).length:Nat):Int) st hB
 rw [e] at hp
 generalize y4 b.base b.batches=p at hp
 obtain⟨er,r⟩:=p
 cases er with
 |no=>
  apply qh []
  repeat' (first|apply And.intro|(intro h;try exact cDd)|exact⟨Tryz.call23⟩|refine cpe hp ?_|exact cSd|apply qb []|refine exr ?_|refine qm ?_)
 |num m=>
  apply qh []
  repeat' (first|apply And.intro|(intro h;try exact cDd)|exact⟨Tryz.call23⟩|refine cpe hp ?_|exact cSd|apply qb []|refine exr ?_|refine qm ?_)
 |at' a m=>
  apply qh []
  repeat' (first|apply And.intro|(intro h;try exact cDd)|exact⟨Tryz.call23⟩|refine cpe hp ?_|exact cSd|apply qb []|refine exr ?_|refine qm ?_)
def qay (text:Bytes):ErrV×vr×zx:=if (jt text).1 = .no then (if (y4 (jt text).2.base (jt text).2.batches).1 = .no then (.no,(jt text).2,(y4 (jt text).2.base (jt text).2.batches).2.l) else ((y4 (jt text).2.base (jt text).2.batches).1,qe9,ofF [])) else ((jt text).1,qe9,ofF [])
def ql2 (r:ErrV×vr×zx):AV:=match r.1 with
 | .no=>.tu [qe0 r.2.1,qar r.2.2,errA .no]
 |e=>.tu [qe0 r.2.1,.v (.pointer none),errA e]
theorem qyb (r:ErrV×vr×zx):Pure (ql2 r):=by
 unfold ql2
 split
 ·exact qky (qkt _) (qgy _) (vj _)
 ·exact qky (qkt _) (q6 _) (vj _)
theorem qyr (text:Bytes) (st:List AObj) (hl:text.length<1000000):qn E 12 [Sv text] st fun r st'=>r=ql2 (qay text)∧st'=st:=by
 refine vc [.s text] (qyb _) Tryz.func12 rfl rfl (fun _=>rfl) rfl fun S0=>?_
 have hbr:=fun st=>qy4 text st hl
 have hbk:(jt text).1 = .no→BkB (jt text).2:=fun h=>qu1 (qk1 (text:=text) (b:=(jt text).2) (by rw [← h]))
 unfold qay
 generalize jt text=q at hbr hbk
 obtain⟨e,b⟩:=q
 cases e with
 |num m=>
  rw [if_neg (by simp)]
  apply qh []
  repeat' (first|apply And.intro|(intro h;try exact cDd)|exact⟨Tryz.call19⟩|refine cpe hbr ?_|exact cSd|apply qb []|refine exr ?_|refine qm ?_)
 |at' a m=>
  rw [if_neg (by simp)]
  apply qh []
  repeat' (first|apply And.intro|(intro h;try exact cDd)|exact⟨Tryz.call19⟩|refine cpe hbr ?_|exact cSd|apply qb []|refine exr ?_|refine qm ?_)
 |no=>
  rw [if_pos rfl]
  have hof:=fun st=>zat b st (hbk rfl)
  dsimp only
  generalize y4 b.base b.batches=p at hof
  obtain⟨e,r⟩:=p
  cases e with
  |no=>
   rw [if_pos rfl]
   apply qh []
   repeat' (first|apply And.intro|(intro h;try exact cDd)|exact⟨Tryz.call19⟩|refine cpe hbr ?_|exact⟨Tryz.call24⟩|refine cpe hof ?_|exact cSd|apply qb []|refine exr ?_|refine qm ?_)
  |num m=>
   rw [if_neg (by simp)]
   apply qh []
   repeat' (first|apply And.intro|(intro h;try exact cDd)|exact⟨Tryz.call19⟩|refine cpe hbr ?_|exact⟨Tryz.call24⟩|refine cpe hof ?_|exact cSd|apply qb []|refine exr ?_|refine qm ?_)
  |at' a m=>
   rw [if_neg (by simp)]
   apply qh []
   repeat' (first|apply And.intro|(intro h;try exact cDd)|exact⟨Tryz.call19⟩|refine cpe hbr ?_|exact⟨Tryz.call24⟩|refine cpe hof ?_|exact cSd|apply qb []|refine exr ?_|refine qm ?_)
end Go.Proofs.YtmoklbacdkmkaaaGreatDoor
namespace Go.Pl
open Go Go.Proofs Go.Proofs.YtmoklbacdkmkaaaGreatDoor
theorem qc5 (a b:List Bytes):zj (a++b)=zj a++zj b:=by simp [zj]
end Go.Pl
namespace Go.Proofs.YtmoklbacdkmkaaaGreatDoor
open Go Go.Av Go.RowKit Go.Proofs Go.Pl
def qto:Bytes:=[65,58,32,49,10]
def qov:List qp:=[⟨2,1,[]⟩]
theorem q22 {text:Bytes} {b:vr} {r:RunV} (hT:xm text b) (hp:y4 b.base b.batches=(.no,r)):qay text=(.no,b,r.l):=by
 unfold qay
 rw [qq3 hT]
 simp [hp]
theorem q0n {text:Bytes} (h:(qay text).1 = .no):∃ b r,xm text b∧y4 b.base b.batches=(.no,r)∧qay text=(.no,b,r.l):=by
 by_cases hb:(jt text).1 = .no
 ·have hT:=qk1 (text:=text) (b:=(jt text).2) (by rw [← hb])
  by_cases hp:(y4 (jt text).2.base (jt text).2.batches).1 = .no
  ·have hp':y4 (jt text).2.base (jt text).2.batches=(.no,(y4 (jt text).2.base (jt text).2.batches).2):=by rw [← hp]
   exact⟨_,_,hT,hp',q22 hT hp'⟩
  ·unfold qay at h
   rw [if_pos hb,if_neg hp] at h
   exact absurd h hp
 ·unfold qay at h
  rw [if_neg hb] at h
  exact absurd h hb
end Go.Proofs.YtmoklbacdkmkaaaGreatDoor
namespace Go.Pl
open Go Go.Proofs Go.Proofs.YtmoklbacdkmkaaaGreatDoor
theorem qr6:∀ (k n:Nat) (l:Bytes),l.length≤k→l.length≤n→∃ j,j≤l.length∧jg n l=n - l.length+j∧BegP (l.drop j)
 | 0,n,l,h,hn=>by
  have:l=[]:=List.length_eq_zero_iff.1 (by omega)
  subst this
  exact⟨0,by simp,by rw [qa6];simp,.inl (by simp)⟩
 |k+1,n,l,h,hn=>by
  by_cases hl:l=[]
  ·subst hl
   exact⟨0,by simp,by rw [qa6];simp,.inl (by simp)⟩
  ·by_cases hb:begF (upto 10 l)=true
   ·exact⟨0,by omega,by rw [qfb hl hb];rfl,.inr hb⟩
   ·have hlt:=xa (c:=10) hl
    have hpl:=ju 10 l
    obtain⟨j,h1,h2,h3⟩:=qr6 k n (past 10 l) (by omega) (by omega)
    refine⟨l.length - (past 10 l).length+j,by omega,by rw [qge hl hb,h2];omega,?_⟩
    have e:past 10 l=l.drop (l.length - (past 10 l).length):=by
     by_cases hm:(upto 10 l).length+1≤l.length
     ·rw [show l.length - (past 10 l).length=(upto 10 l).length+1 by omega]
      rfl
     ·have h0:(past 10 l).length=0:=by omega
      rw [List.eq_nil_of_length_eq_zero h0]
      simp
    rw [← List.drop_drop,← e]
    exact h3
theorem qt2 (text:Bytes):atH text≤(kg text).length∧BegP ((kg text).drop (atH text)):=by
 obtain⟨j,h1,h2,h3⟩:=qr6 _ _ (kg text) (Nat.le_refl _) (Nat.le_refl _)
 have:atH text=j:=by
  unfold atH
  omega
 rw [this]
 exact⟨h1,h3⟩
theorem qp5 (text:Bytes):text=j5 (vf text).1++(wc text++(kg text).drop (atH text)):=by
 unfold wc
 rw [List.take_append_drop]
 exact (qdr text).1
end Go.Pl
namespace Go.Proofs.YtmoklbacdkmkaaaGreatDoor
open Go Go.Av Go.Proofs Go.Pl
def okP:List (List qp)→zx→Prop
 | [],_=>True
 |b::q,l=>(doF l b).1 = .no∧okP q (doF l b).2.1
theorem qle:∀ (bs:List (List qp)) (r:RunV),(qbx bs r).1 = .no↔okP bs r.l
 | [],r=>by simp [qbx,okP]
 |b::q,r=>by
  unfold qbx okP
  split
  ·rename_i h
   rw [qle q (qd7 r b)]
   simp [qd7,h]
  ·rename_i h
   simp [h]
theorem q4q {base:Bytes} (bs:List (List qp)) (h:xx base = .no):(y4 base bs).1 = .no↔okP bs (ofF (itsE base)):=by
 unfold y4
 rw [if_pos h]
 exact qle bs _
def yj:Nat→zx→Bytes→Nat
 | 0,_,_=>0
 |f+1,l,t=>if (q9 t).1=1 then match decF (q9 t).2.1 with
   |some b=>if (doF l b).1 = .no then (q9 t).2.2.toNat+yj f (doF l b).2.1 (t.drop (q9 t).2.2.toNat) else 0
   |none=>0
  else 0
theorem qnn {t:Bytes} (h:(q9 t).1≠1):∀ (f:Nat) (l:zx),yj f l t=0
 | 0,_=>rfl
 |f+1,l=>by rw [yj,if_neg h]
theorem qo6:∀ (bs:List (List qp)) (f:Nat) (l:zx) (t:Bytes),(∀ b∈bs,qal b)→okP bs l→(q9 t).1≠1→bs.length≤f→yj f l (zo bs++t)=(zo bs).length
 | [],f,l,t,_,_,ht,_=>by rw [zo,List.flatMap_nil,List.nil_append,qnn ht];rfl
 |b::r,0,l,t,_,_,_,hf=>absurd hf (by simp)
 |b::r,f+1,l,t,h,hp,ht,hf=>by
  have hb:=h b (by simp)
  have hrd:q9 (zo (b::r)++t)=(1,encF b,((recE b).length:Int)):=by
   rw [km,List.append_assoc]
   exact qn4 _ hb.good
  have hdr:(zo (b::r)++t).drop (recE b).length=zo r++t:=by
   rw [km,List.append_assoc,List.drop_left]
  rw [yj,hrd]
  simp only
  rw [if_pos trivial,hb.dec]
  simp only [Int.toNat_natCast]
  rw [if_pos hp.1,hdr,qo6 r f _ t (fun x hx=>h x (by simp [hx])) hp.2 ht (by simp at hf;omega),km,List.length_append]
theorem qqh:∀ (f:Nat) (l:zx) (t:Bytes),∃ bs r,t=zo bs++r∧yj f l t=(zo bs).length∧(∀ b∈bs,qal b)∧okP bs l
 | 0,l,t=>⟨[],t,by simp [zo],by simp [yj,zo],by simp,trivial⟩
 |f+1,l,t=>by
  have none':yj (f+1) l t=0→∃ bs r,t=zo bs++r∧yj (f+1) l t=(zo bs).length∧(∀ b∈bs,qal b)∧okP bs l:=fun h=>⟨[],t,by simp [zo],by rw [h];simp [zo],by simp,trivial⟩
  by_cases h1:(q9 t).1=1
  ·cases hd:decF (q9 t).2.1 with
   |none=>exact none' (by rw [yj,if_pos h1,hd])
   |some b=>
    by_cases ho:(doF l b).1 = .no
    ·obtain⟨hg,he⟩:=qn3 hd
     have hrd:q9 t=(1,(q9 t).2.1,(q9 t).2.2):=by rw [← h1]
     obtain⟨_,m,hm,hn⟩:=qhg hrd
     rw [← he] at hm hn
     have hm':t=recE b++m:=hm
     have hn':(q9 t).2.2=((recE b).length:Int):=hn
     have hdr:t.drop (recE b).length=m:=by
      conv=>lhs;rw [hm']
      rw [List.drop_left]
     obtain⟨bs,r,e1,e2,e3,e4⟩:=qqh f (doF l b).2.1 m
     refine⟨b::bs,r,by rw [km,List.append_assoc,← e1];exact hm',?_,fun x hx=>?_,ho,e4⟩
     ·rw [yj,if_pos h1,hd]
      simp only
      rw [if_pos ho,hn',Int.toNat_natCast,hdr,e2,km,List.length_append]
     ·rcases List.mem_cons.1 hx with rfl|hx
      ·exact hg
      ·exact e3 x hx
    ·exact none' (by rw [yj,if_pos h1,hd];simp only;rw [if_neg ho])
  ·exact none' (qnn h1 _ _)
def qcd (text:Bytes):Int×Int:=match (qay text).1 with
 | .no=>(if (qay text).2.1.tail=[] then 1 else 2,0)
 | .num n=>(if n=10 then 3 else 4,-1)
 | .at' a n=>(if n=10 then 3 else 4,a)
def qgx (text:Bytes):Nat:=yj (text.length+1) (ofF (itsE (wc text))) ((kg text).drop (atH text))
def qpt (text:Bytes):Bytes:=if (qcd text).1=4 then [] else if xx (wc text) = .no then text.take ((j5 (vf text).1).length+atH text+qgx text) else []
theorem qr7 (text:Bytes):(wc text).length=atH text:=by
 have:=(qt2 text).1
 unfold wc
 simp
 omega
theorem q8b {text:Bytes} {bs:List (List qp)} {r:Bytes} (h1:(kg text).drop (atH text)=zo bs++r) (h2:qgx text=(zo bs).length):text.take ((j5 (vf text).1).length+atH text+qgx text)=j5 (vf text).1++(wc text++zo bs):=by
 have hs:=qp5 text
 rw [h1] at hs
 rw [h2,← qr7]
 conv=>lhs;arg 2;rw [hs]
 rw [← List.append_assoc,← List.append_assoc,← List.append_assoc]
 have e:(j5 (vf text).1).length+(wc text).length+(zo bs).length=(j5 (vf text).1++wc text++zo bs).length:=by simp;omega
 rw [e,List.take_left]
theorem qrk:∀ bs:List (List qp),bs.length≤(zo bs).length
 | []=>by simp
 |x::r=>by
  have:=qko x
  have:=qrk r
  rw [km]
  simp
  omega
end Go.Proofs.YtmoklbacdkmkaaaGreatDoor
namespace Go.Pl
open Go
def i64 (n:Int):Prop:= -9223372036854775808≤n∧n≤9223372036854775807
end Go.Pl
namespace Go.Proofs.YtmoklbacdkmkaaaGreatDoor
open Go Go.Av Go.RowKit Go.Proofs Go.Pl
theorem qts (a n:Int) {b nx:Nat} {H:Nat→Option SR} (hH:H b=some (.cells 101 [.a (.v (.pointer none))])):ku E 85 [.a (.ifc 101 (.pp [Iv a,.ifc 76 (Iv n)])),.ifc 165 (.bx b 0)] nx H ⟨.b true,[b],[(b,some (.cells 101 [.a (.pp [Iv a,.ifc 76 (Iv n)])]))],nx⟩:=
 qye (r0:=Bv true) hH fun ρ S o hρ hS=>by
  have h:=qyf a n o S hS
  simp only [SV.evs,SV.ev,hρ,bxAt]
  exact h
theorem qr4 (n:Int) {b nx:Nat} {H:Nat→Option SR} (hH:H b=some (.cells 101 [.a (.v (.pointer none))])):ku E 85 [.a (.ifc 76 (Iv n)),.ifc 165 (.bx b 0)] nx H ⟨.b false,[b],[(b,some (.cells 101 [.a (.v (.pointer none))]))],nx⟩:=
 qye (r0:=Bv false) hH fun ρ S o hρ hS=>by
  have h:=qwf n o S hS
  have e:S.set o (.cells 0 101 [.v (.pointer none)])=S:=by
   refine List.ext_getElem? fun i=>?_
   by_cases hi:o=i
   ·subst hi
    rw [List.getElem?_set_self (lt_of_getElem? hS),hS]
    rfl
   ·rw [List.getElem?_set_ne hi]
  simp only [SV.evs,SV.ev,hρ,bxAt]
  refine h.mono ?_
  rintro r S' ⟨rfl,rfl⟩
  exact⟨rfl,e.symm⟩
theorem qn9 (text:Bytes) (st:List AObj) (hl:text.length<1000000):qn E 41 [Sv text] st fun r st'=>r = .tu [Iv (qcd text).1,Iv (qcd text).2]∧st'=st:=by
 refine vc [.s text] (va (q6 _) (q6 _)) Tryz.func41 rfl rfl (fun _=>rfl) rfl fun S0=>?_
 have hrt:=fun st=>qyr text st hl
 unfold ql2 at hrt
 unfold qcd
 generalize qay text=q at hrt
 obtain⟨e,b,l⟩:=q
 cases e with
 |no=>
  dsimp only at hrt ⊢
  by_cases ht:b.tail=[]
  ·rw [if_pos ht]
   apply qh [4]
   repeat' (first|apply And.intro|(intro h;try exact cDd)|exact⟨Tryz.call12⟩|refine cpe hrt ?_|exact absurd ht (by assumption)|exact cSd|apply qb [4]|refine exr ?_|refine qm ?_)
  ·rw [if_neg ht]
   apply qh [4]
   repeat' (first|apply And.intro|(intro h;try exact cDd)|exact⟨Tryz.call12⟩|refine cpe hrt ?_|exact absurd ht (by assumption)|exact cSd|apply qb [4]|refine exr ?_|refine qm ?_)
 |num n=>
  dsimp only at hrt ⊢
  have his:=fun st=>q9i n 10 st
  by_cases h10:n=10
  ·rw [decide_eq_true h10] at his
   rw [if_pos h10]
   apply qh [4,9]
   repeat' (first|apply And.intro|(intro h;try exact cDd)|exact⟨Tryz.call12⟩|refine cpe hrt ?_|exact⟨Tryz.call84⟩|refine cpe his ?_|exact⟨Tryz.call85⟩|(refine Exists.intro _ ⟨qr4 n rfl,?_⟩)|exact cSd|apply qb [4,9]|refine exr ?_|refine qm ?_)
  ·rw [decide_eq_false h10] at his
   rw [if_neg h10]
   apply qh [4,9]
   repeat' (first|apply And.intro|(intro h;try exact cDd)|exact⟨Tryz.call12⟩|refine cpe hrt ?_|exact⟨Tryz.call84⟩|refine cpe his ?_|exact⟨Tryz.call85⟩|(refine Exists.intro _ ⟨qr4 n rfl,?_⟩)|exact cSd|apply qb [4,9]|refine exr ?_|refine qm ?_)
 |at' a n=>
  dsimp only at hrt ⊢
  have his:=fun st=>q9e a n 10 st
  by_cases h10:n=10
  ·rw [decide_eq_true h10] at his
   rw [if_pos h10]
   apply qh [4,9]
   repeat' (first|apply And.intro|(intro h;try exact cDd)|exact⟨Tryz.call12⟩|refine cpe hrt ?_|exact⟨Tryz.call84⟩|refine cpe his ?_|exact⟨Tryz.call85⟩|(refine Exists.intro _ ⟨qts a n rfl,?_⟩)|exact cSd|apply qb [4,9]|refine exr ?_|refine qm ?_)
  ·rw [decide_eq_false h10] at his
   rw [if_neg h10]
   apply qh [4,9]
   repeat' (first|apply And.intro|(intro h;try exact cDd)|exact⟨Tryz.call12⟩|refine cpe hrt ?_|exact⟨Tryz.call84⟩|refine cpe his ?_|exact⟨Tryz.call85⟩|(refine Exists.intro _ ⟨qts a n rfl,?_⟩)|exact cSd|apply qb [4,9]|refine exr ?_|refine qm ?_)
theorem q6y (text:Bytes) (st:List AObj) (hl:text.length<1000000):qn E 86 [Sv text] st fun r st'=>r=Iv ((jg text.length text:Nat):Int)∧st'=st:=by
 refine vc [.s text] (q6 _) Tryz.func86 rfl rfl (fun _=>rfl) rfl fun S0=>?_
 apply qh []
 repeat' (first|apply And.intro|(intro h;try exact cDd)|exact⟨Tryz.call100⟩|(refine Exists.intro _ ⟨qgv _,?_⟩)|exact cSd|apply qb []|refine exr ?_|refine qm ?_)
 refine qdh (X:=Int) text 1 2 [0,1] (fun r=>⟨[(0,.s text),(2,.bx 0 0),(5,.fn (.func 163) [] [.bx 1 0])],[(0,some (.cells 3 [.i r])),(1,some (.cells 9 [.s text]))],2⟩) _
  (fun k rest r=>r=0∧rest.length≤text.length∧jg text.length text=jg text.length rest) (fun c r=>c = .ret∧r=((jg text.length text:Nat):Int)) 0 ⟨rfl,by omega,rfl⟩ ?_ id (by omega) (fun _=>rfl) rfl (fun _=>rfl) (fun _=>rfl) rfl ?_ ?_ ?_
 ·skip
  repeat' (first|apply And.intro|(intro h;try exact cDd)|exact cSd|apply qb []|refine exr ?_|refine qm ?_)
 ·rintro k rest r ⟨rfl,hrl,hbeg⟩ hne hle
  have hu:=kf 10 rest
  have hpl:=ju 10 rest
  have hbg:=fun st=>q3u (upto 10 rest) _ st (by omega) rfl
  unfold qi7
  by_cases hb:begF (upto 10 rest)=true
  ·rw [hb] at hbg
   have hv:((text.length:Int) - rest.length)=((jg text.length text:Nat):Int):=by
    rw [hbeg,qfb hne hb]
    omega
   refine RA.mk fun S F ρ rd=>?_
   apply qh []
   repeat' (first|apply And.intro|(intro h;try exact cDd)|(refine RB.mk fun S rd=>?_;apply qh [])|exact⟨Tryz.call101⟩|refine cpe hbg ?_|(refine Exists.intro _ ⟨⟨rfl,hv⟩,?_⟩)|exact cSd|apply qb []|refine exr ?_|refine qm ?_)
  ·have hb':begF (upto 10 rest)=false:=by simpa using hb
   rw [hb'] at hbg
   refine RA.mk fun S F ρ rd=>?_
   apply qh []
   repeat' (first|apply And.intro|(intro h;try exact cDd)|(refine RB.mk fun S rd=>?_;apply qh [])|exact⟨Tryz.call101⟩|refine cpe hbg ?_|(refine Exists.intro 0 ⟨⟨rfl,by omega,by rw [hbeg,qge hne (by rw [hb'];decide)]⟩,?_⟩)|exact cSd|apply qb []|refine exr ?_|refine qm ?_)
 ·rintro k r ⟨rfl,hrl,hbeg⟩
  rw [qa6] at hbeg
  rw [hbeg]
  repeat' (first|apply And.intro|(intro h;try exact cDd)|exact cSd|apply qb []|refine exr ?_|refine qm ?_)
 ·rintro c r ⟨rfl,rfl⟩
  repeat' (first|apply And.intro|(intro h;try exact cDd)|exact cSd|apply qb []|refine exr ?_|refine qm ?_)
theorem q5s (l0:zx) (text:Bytes) (st:List AObj) (hB:LB 300000 l0) (hl:text.length≤100000) (f0:Nat) (hf0:text.length<f0):qn E 88 [qar l0,Sv text] st fun r st'=>r=Iv (yj f0 l0 text:Nat)∧st'=st:=by
 refine vc [.a (qar l0),.s text] (q6 _) Tryz.func88 rfl rfl (fun _=>rfl) rfl fun S0=>?_
 generalize htot:yj f0 l0 text=tot
 apply qh []
 repeat' (first|apply And.intro|(intro h;try exact cDd)|exact cSd|apply qb []|refine exr ?_|refine qm ?_)
 refine yt (X:=Nat×zx) (fun (k,l)=>⟨[(0,.a (qar l)),(1,.s text),(5,.i k)],[],0⟩) (fun (k,l)=>k≤text.length∧LB (300000+5 * k) l∧∃ f,(text.drop k).length<f∧k+yj f l (text.drop k)=tot) (fun (k,l)=>text.length - k) (0,l0) ⟨by omega,hB,f0,by simpa using hf0,by simpa using htot⟩ ?_ ?_
 ·skip
  repeat' (first|apply And.intro|(intro h;try exact cDd)|exact cSd|apply qb []|refine exr ?_|refine qm ?_)
 ·rintro⟨k,l⟩ ⟨hk,hq,f,hf,hrun⟩
  have hdl:(text.drop k).length=text.length - k:=by simp
  have hrd:=fun st=>q4h (text.drop k) st (by omega)
  have hbl:=qlc (l:=text.drop k)
  have hdc:=fun st=>qvq (q9 (text.drop k)).2.1 st (by omega)
  cases f with
  |zero=>omega
  |succ f=>
   rw [yj] at hrun
   by_cases h1:(q9 (text.drop k)).1=1
   ·rw [if_pos h1] at hrun
    have hrs:q9 (text.drop k)=(1,(q9 (text.drop k)).2.1,(q9 (text.drop k)).2.2):=by rw [← h1]
    rw [h1] at hrd
    cases hd:decF (q9 (text.drop k)).2.1 with
    |none=>
     rw [hd] at hrun hdc
     generalize (q9 (text.drop k)).2.1=body at hrd hdc
     generalize (q9 (text.drop k)).2.2=n at hrd
     have hrun':k=tot:=by simpa using hrun
     subst hrun'
     apply qh []
     repeat' (first|apply And.intro|(intro h;try exact cDd)|exact⟨Tryz.call104⟩|refine cpe hrd ?_|exact⟨Tryz.call105⟩|refine cpe hdc ?_|exact cSd|apply qb []|refine exr ?_|refine qm ?_)
    |some b=>
     rw [hd] at hrun hdc
     obtain⟨_,m,hm,hn⟩:=qhg hrs
     obtain⟨hg,he⟩:=qn3 hd
     rw [← he] at hm hn
     have hm':text.drop k=recE b++m:=hm
     have hn':(q9 (text.drop k)).2.2=((recE b).length:Int):=hn
     have h9:=qs0 b
     have hml:=congrArg List.length hm'
     rw [hdl,List.length_append] at hml
     have hgl:=(qfu hg.ok).2.1
     have hdo:=fun st=>qz6 (300000+5 * k) l b st hq (by omega) hg.B (by omega)
     have hdr:(text.drop k).drop (recE b).length=text.drop (k+(recE b).length):=List.drop_drop ..
     rw [hn',Int.toNat_natCast,hdr] at hrun
     rw [hn'] at hrd
     generalize (q9 (text.drop k)).2.1=body at hrd hdc
     have hlb:=q15 hq (by omega) b
     unfold doA at hdo
     dsimp only at hrun
     generalize doF l b=r at hdo hrun hlb
     obtain⟨e,l',ids⟩:=r
     dsimp only at hdo hrun hlb
     cases e with
     |no=>
      rw [if_pos rfl] at hrun
      have hlb':=qjw hlb (m:=300000+5 * (k+(recE b).length)) (by omega) (by omega)
      apply qh []
      repeat' (first|apply And.intro|(intro h;try exact cDd)|exact⟨Tryz.call104⟩|refine cpe hrd ?_|exact⟨Tryz.call105⟩|refine cpe hdc ?_|exact⟨Tryz.call27⟩|refine cpe hdo ?_|(refine Exists.intro (k+(recE b).length,l') ⟨⟨by omega,hlb',f,by simp;omega,by omega⟩,by simp only;omega,?_⟩)|exact cSd|apply qb []|refine exr ?_|refine qm ?_)
     |num m=>
      rw [if_neg (by simp)] at hrun
      have hrun':k=tot:=by simpa using hrun
      subst hrun'
      apply qh []
      repeat' (first|apply And.intro|(intro h;try exact cDd)|exact⟨Tryz.call104⟩|refine cpe hrd ?_|exact⟨Tryz.call105⟩|refine cpe hdc ?_|exact⟨Tryz.call27⟩|refine cpe hdo ?_|exact cSd|apply qb []|refine exr ?_|refine qm ?_)
     |at' a m=>
      rw [if_neg (by simp)] at hrun
      have hrun':k=tot:=by simpa using hrun
      subst hrun'
      apply qh []
      repeat' (first|apply And.intro|(intro h;try exact cDd)|exact⟨Tryz.call104⟩|refine cpe hrd ?_|exact⟨Tryz.call105⟩|refine cpe hdc ?_|exact⟨Tryz.call27⟩|refine cpe hdo ?_|exact cSd|apply qb []|refine exr ?_|refine qm ?_)
   ·rw [if_neg h1] at hrun
    have hrun':k=tot:=by simpa using hrun
    subst hrun'
    generalize (q9 (text.drop k)).1=c at hrd h1
    generalize (q9 (text.drop k)).2.1=body at hrd hdc
    generalize (q9 (text.drop k)).2.2=n at hrd
    cases hd:decF body with
    |none=>
     rw [hd] at hdc
     apply qh []
     repeat' (first|apply And.intro|(intro h;try exact cDd)|exact⟨Tryz.call104⟩|refine cpe hrd ?_|exact⟨Tryz.call105⟩|refine cpe hdc ?_|exact cSd|apply qb []|refine exr ?_|refine qm ?_)
    |some b=>
     rw [hd] at hdc
     apply qh []
     repeat' (first|apply And.intro|(intro h;try exact cDd)|exact⟨Tryz.call104⟩|refine cpe hrd ?_|exact⟨Tryz.call105⟩|refine cpe hdc ?_|exact cSd|apply qb []|refine exr ?_|refine qm ?_)
theorem qyx (text:Bytes) (st:List AObj) (hl:text.length≤100000):qn E 42 [Sv text] st fun r st'=>r=Sv (qpt text)∧st'=st:=by
 refine vc [.s text] (q6 _) Tryz.func42 rfl rfl (fun _=>rfl) rfl fun S0=>?_
 have hst:=fun st=>qn9 text st (by omega)
 unfold qpt
 by_cases h4:(qcd text).1=4
 ·rw [if_pos h4]
  rw [h4] at hst
  generalize (qcd text).2=at2 at hst
  apply qh []
  repeat' (first|apply And.intro|(intro h;try exact cDd)|exact⟨Tryz.call41⟩|refine cpe hst ?_|exact cSd|apply qb []|refine exr ?_|refine qm ?_)
 ·rw [if_neg h4]
  have hht:=fun st=>qzi text st (by omega)
  have hsp:=qp5 text
  have hspl:=congrArg List.length hsp
  simp only [List.length_append] at hspl
  have hrl:(kg text).length≤text.length:=by
   have:=(qdr text).1
   have:=congrArg List.length this
   simp at this
   unfold kg
   omega
  have hbg:=fun st=>q6y (kg text) st (by omega)
  have hat:=(qt2 text).1
  have hbl:=qr7 text
  have hlo:=fun st=>qwq (wc text) st (by omega)
  have hhl:=fun st=>q30 (vf text).1 st
  have htk:=fun (st:List AObj)=>q5s (ofF (itsE (wc text))) ((kg text).drop (atH text)) st (q3r _) (by simp;omega) (text.length+1) (by simp;omega)
  have htl:(j5 (vf text).1).length+atH text+qgx text≤text.length:=by
   obtain⟨bs,r,e1,e2,_⟩:=qqh (text.length+1) (ofF (itsE (wc text))) ((kg text).drop (atH text))
   have h1:=congrArg List.length e1
   simp only [List.length_append] at h1
   have e2':qgx text=(zo bs).length:=e2
   rw [h1] at hspl
   omega
  replace htk:∀ st,qn E 88 [qar (ofF (itsE (wc text))),Sv ((kg text).drop (atH text))] st fun r st'=>r=Iv (qgx text:Nat)∧st'=st:=htk
  replace hht:∀ st,qn E 56 [Sv text] st fun r st'=>r = .tu [Iv (vf text).1,Sv (kg text)]∧st'=st:=hht
  replace hbg:∀ st,qn E 86 [Sv (kg text)] st fun r st'=>r=Iv (atH text:Nat)∧st'=st:=hbg
  replace hlo:∀ st,qn E 87 [Sv ((kg text).take (atH text))] st fun r st'=>r=qlx (xx (wc text)) (ofF (itsE (wc text)))∧st'=st:=hlo
  generalize qgx text=tk at *
  generalize kg text=rest at *
  generalize atH text=at1 at *
  generalize (vf text).1=gen at *
  generalize (qcd text).1=kd at *
  generalize (qcd text).2=at2 at *
  generalize wc text=base at *
  generalize ofF (itsE base)=l at *
  cases he:xx base with
  |no=>
   rw [he] at hlo
   rw [if_pos rfl]
   apply qh []
   repeat' (first|apply And.intro|(intro h;try exact cDd)|exact⟨Tryz.call41⟩|refine cpe hst ?_|exact⟨Tryz.call56⟩|refine cpe hht ?_|exact⟨Tryz.call86⟩|refine cpe hbg ?_|exact⟨Tryz.call87⟩|refine cpe hlo ?_|exact⟨Tryz.call77⟩|refine cpe hhl ?_|exact⟨Tryz.call88⟩|refine cpe htk ?_|exact cSd|apply qb []|refine exr ?_|refine qm ?_)
  |num m=>
   rw [he] at hlo
   rw [if_neg (by simp)]
   apply qh []
   repeat' (first|apply And.intro|(intro h;try exact cDd)|exact⟨Tryz.call41⟩|refine cpe hst ?_|exact⟨Tryz.call56⟩|refine cpe hht ?_|exact⟨Tryz.call86⟩|refine cpe hbg ?_|exact⟨Tryz.call87⟩|refine cpe hlo ?_|exact cSd|apply qb []|refine exr ?_|refine qm ?_)
  |at' a m=>
   rw [he] at hlo
   rw [if_neg (by simp)]
   apply qh []
   repeat' (first|apply And.intro|(intro h;try exact cDd)|exact⟨Tryz.call41⟩|refine cpe hst ?_|exact⟨Tryz.call56⟩|refine cpe hht ?_|exact⟨Tryz.call86⟩|refine cpe hbg ?_|exact⟨Tryz.call87⟩|refine cpe hlo ?_|exact cSd|apply qb []|refine exr ?_|refine qm ?_)
def qpk:List qp:=[⟨3,0,[([66],[50,50])]⟩]
def qg8:Bytes:=(Go.Pl.appF qto qov).2
def qd4:Bytes:=(Go.Pl.appF qg8 qpk).2
theorem q2y (st:List AObj):qn E 40 [] st fun r st'=>r=Bv true∧st'=st:=by
 have hap:=fun st=>qv4 qto qov st (by decide) (by simp [qov];exact⟨by simp [KeyB],by simp,by simp,by simp⟩) (by decide)
 have hap2:=fun st=>qv4 qg8 qpk st (by decide +kernel) (by simp [qpk];exact⟨by simp [KeyB],by simp,by simp,by simp⟩) (by decide)
 have h1:(Go.Pl.appF qto qov).1 = .no:=by decide +kernel
 have h2:(Go.Pl.appF qg8 qpk).1 = .no:=by decide +kernel
 have h3:qg8.length+40≤qd4.length∧qd4.length≤200∧qg8.length≤100:=by decide +kernel
 have h4:qcd (qd4.set (qd4.length - 12) (qd4.getD (qd4.length - 12) 0 ^^^ 1))=(3,1):=by decide +kernel
 have h5:qpt (qd4.set (qd4.length - 12) (qd4.getD (qd4.length - 12) 0 ^^^ 1))=qg8:=by decide +kernel
 rw [h1] at hap
 rw [h2] at hap2
 have hap':∀ st,qn E 28 [Sv qto,jk qov] st fun r st'=>r = .tu [Sv qg8,errA .no]∧st'=st:=hap
 have hap2':∀ st,qn E 28 [Sv qg8,jk qpk] st fun r st'=>r = .tu [Sv qd4,errA .no]∧st'=st:=hap2
 clear hap hap2 h1 h2
 generalize qg8=s at *
 generalize qd4=t at *
 obtain⟨i,hi⟩:∃ i,i+12=t.length:=⟨t.length - 12,by omega⟩
 have hi2:t.length - 12=i:=by omega
 rw [hi2] at h4 h5
 have hz:t[i]? = some (t.getD i 0):=by rw [List.getD,List.getElem?_eq_getElem (by omega)];rfl
 generalize t.getD i 0=z at *
 have hlen:(t.set i (z ^^^ 1)).length=t.length:=List.length_set
 have hs:=fun st=>qn9 (t.set i (z ^^^ 1)) st (by omega)
 have hl:=fun st=>qyx (t.set i (z ^^^ 1)) st (by omega)
 rw [h4] at hs
 rw [h5] at hl
 refine vc [] (q6 _) Tryz.func40 rfl rfl (fun _=>rfl) rfl fun S0=>?_
 apply qh []
 repeat' (first|apply And.intro|(intro h;try exact cDd)|exact⟨Tryz.call28⟩|refine cpe hap' ?_|exact⟨Tryz.call28⟩|refine cpe hap2' ?_|(refine qys rfl (by omega) rfl rfl rfl ?_)|(refine q7v rfl rfl rfl ⟨_,rfl⟩ ?_)|(refine quj (i:=i) rfl rfl rfl (congrArg (fun x=>some (IntKind.i64,x)) (by omega)) rfl rfl (by omega) ?_)|(refine qug rfl rfl rfl hz ?_)|(refine qyy (a:=z) (b:=1) rfl (fun _=>rfl) rfl (fun _=>rfl) ?_)|(refine qsk (z:=z ^^^ 1) rfl rfl (fun _=>rfl) rfl rfl (by omega) ?_)|(refine qzj rfl rfl rfl rfl rfl ?_)|exact⟨Tryz.call41⟩|refine cpe hs ?_|exact⟨Tryz.call42⟩|refine cpe hl ?_|exact cSd|apply qb []|refine exr ?_|refine qm ?_)
 all_goals (simp;done)
end Go.Proofs.YtmoklbacdkmkaaaGreatDoor
namespace Go.Pl
open Go Go.Proofs Go.Proofs.YtmoklbacdkmkaaaGreatDoor
theorem qvj:∀ (bs:List (List qp)) (f:Nat) (t:Bytes) (a:Int) (xs:List (List qp)) (es:List Int),(∀ b∈bs,qal b)→(q9 t).1=3→bs.length<f→(recsF f (zo bs++t) a xs es).1=true∧(recsF f (zo bs++t) a xs es).2.1=xs++bs
 | [],f+1,t,a,xs,es,_,ht,_=>by
  rw [recsF]
  simp only [zo,List.flatMap_nil,List.nil_append,List.append_nil]
  rw [if_neg (by rw [ht];decide),if_neg (by rw [ht];decide)]
  exact⟨rfl,rfl⟩
 |b::r,f+1,t,a,xs,es,h,ht,hf=>by
  have hb:=h b (by simp)
  have hrd:q9 (zo (b::r)++t)=(1,encF b,((recE b).length:Int)):=by
   rw [km,List.append_assoc]
   exact qn4 _ hb.good
  have hdr:(zo (b::r)++t).drop (recE b).length=zo r++t:=by
   rw [km,List.append_assoc,List.drop_left]
  rw [recsF,hrd]
  simp only
  rw [if_neg (by decide),if_pos trivial,hb.dec]
  simp only [Int.toNat_natCast]
  rw [hdr]
  obtain⟨h1,h2⟩:=qvj r f t (a+((recE b).length:Int)) (xs++[b]) (es++[a+((recE b).length:Int)]) (fun x hx=>h x (by simp [hx])) ht (by simp at hf;omega)
  exact⟨h1,by rw [h2];simp⟩
theorem q6s {text:Bytes} {b:vr} (h:xm text b) {t:Bytes} (ht:(q9 t).1=3) (hb:BegP t) (hl:(zi b++t).length≤120000) :
  jt (zi b++t)=(.at' b.batches.length 10,qe9)∧(vf (zi b++t)).1=b.gen∧wc (zi b++t)=b.base∧(kg (zi b++t)).drop (atH (zi b++t))=zo b.batches++t:=by
 have e0:zi b++t=j5 b.gen++(b.base++(zo b.batches++t)):=by simp [zi]
 have hbp:BegP (zo b.batches++t):=by
  cases hq:b.batches with
  |nil=>simpa [zo] using hb
  |cons x r=>
   refine .inr ?_
   rw [km,List.append_assoc]
   exact qyj _ (h.good x (by rw [hq];simp)).good
 have hg:vf (zi b++t)=(b.gen,b.base++(zo b.batches++t)):=by
  rw [e0]
  rcases h.gen0 with h0|h0
  ·have hgen:=h.gen
   have htext:=h.txt
   have e:j5 b.gen=[]:=by unfold j5;rw [if_neg (by rw [h0];decide)]
   rw [e,List.nil_append] at htext ⊢
   rw [h0,htext] at hgen
   rw [h0]
   exact qoy (fun p hp=>((qhu h.parse).1 p hp).2) hgen (qrw hbp)
  ·have e:j5 b.gen=xg b.gen:=by unfold j5;rw [if_pos h0]
   rw [e,qgw h0]
 have hr:kg (zi b++t)=b.base++(zo b.batches++t):=by unfold kg;rw [hg]
 have ha:atH (zi b++t)=b.base.length:=by
  unfold atH
  rw [hr]
  exact qqd h.parse hbp
 have hbs:wc (zi b++t)=b.base:=by
  unfold wc
  rw [ha,hr,List.take_left]
 have hdr:(kg (zi b++t)).drop (atH (zi b++t))=zo b.batches++t:=by rw [ha,hr,List.drop_left]
 refine⟨?_,by rw [hg],hbs,hdr⟩
 have hrl:=qrk b.batches
 obtain⟨h1,h2⟩:=qvj b.batches ((zi b++t).length+1) t (((zi b++t).length - (kg (zi b++t)).length+atH (zi b++t):Nat):Int) [] [] h.good ht (by rw [e0];simp;omega)
 unfold jt
 rw [if_neg (by omega),hbs,h.parse]
 have h3:qbg (zi b++t)=recsF ((zi b++t).length+1) (zo b.batches++t) (((zi b++t).length - (kg (zi b++t)).length+atH (zi b++t):Nat):Int) [] []:=by
  unfold qbg
  rw [hdr]
 simp only
 rw [h3,if_pos h1,h2]
 simp
end Go.Pl
namespace Go.Proofs.YtmoklbacdkmkaaaGreatDoor
open Go Go.Av Go.RowKit Go.Proofs Go.Pl
theorem q4g {text:Bytes} {b:vr} (h:xm text b) (hp:okP b.batches (ofF (itsE b.base))) {t:Bytes} (ht:(q9 t).1=3) (hb:BegP t) (hl:(zi b++t).length≤120000):qcd (zi b++t)=(3,(b.batches.length:Int))∧qpt (zi b++t)=zi b:=by
 obtain⟨h1,h2,h3,h4⟩:=q6s h ht hb hl
 have e:qcd (zi b++t)=(3,(b.batches.length:Int)):=by
  unfold qcd qay
  rw [h1]
  simp only
  rw [if_neg (by simp)]
  simp
 refine⟨e,?_⟩
 have htk:qgx (zi b++t)=(zo b.batches).length:=by
  unfold qgx
  rw [h3,h4]
  refine qo6 _ _ _ _ h.good hp (by rw [ht];decide) ?_
  have:=qrk b.batches
  simp [zi]
  omega
 unfold qpt
 rw [if_neg (by rw [e];simp),h3,if_pos h.parse,q8b h4 htk,h2,h3]
 rfl
theorem qeb (a r:Bytes) (j:Nat):(a++r).getD (a.length+j) 0=r.getD j 0:=by
 simp [List.getD,List.getElem?_append_right]
theorem q0a {x:List qp} (hG:qal x) (W:Bytes):∃ h n:Nat,2≤n∧h+1+n<(recE x).length ∧
  (∀ j,j≤h→((W++recE x).getD (W.length+j) 0=10↔j=h))∧(W++recE x).getD (W.length+h+n) 0=10∧(∀ k,W.length+h+1+n<k→k≤(W++recE x).length - 1→(W++recE x).getD (k - 1) 0≠10) ∧
  ∀ m z,m<n→(W++recE x).getD (W.length+h+1+m) 0=z→∃ t,(W++recE x).set (W.length+h+1+m) (z ^^^ 1)=W++t∧(q9 t).1=3∧BegP t∧t.length=(recE x).length:=by
 have hg:=hG.good
 have hR:recE x=zy (encF x).length (sumF (encF x))++10::(encF x++yx (encF x).length):=qeu (encF x)
 have hx:xy (sumF (encF x)):=qi9 _
 have hset:=fun (m:Nat) (hm:m<(encF x).length)=>q9b (b:=1) hm hg (by decide)
 have hset':∀ m,m<(encF x).length→q9 ((recE x).set ((zy (encF x).length (sumF (encF x))).length+1+m) ((recE x).getD ((zy (encF x).length (sumF (encF x))).length+1+m) 0 ^^^ 1))=(3,[],0):=hset
 have hat:=fun k (hk:k≤(zy (encF x).length (sumF (encF x))).length)=>q8s (r:=encF x++yx (encF x).length) hx hk
 have hno:=qax (encF x).length hx
 have hbg:begF (zy (encF x).length (sumF (encF x)))=true:=qf9 hx (List.prefix_refl _) (by simp [zy,zw])
 rw [← hR] at hat
 have htl:=qcq (encF x).length
 have h2:=hg.1
 have hlast:=hg.2.2.1
 have hRl:(recE x).length=(zy (encF x).length (sumF (encF x))).length+1+((encF x).length+(yx (encF x).length).length):=by rw [hR];simp;omega
 refine⟨(zy (encF x).length (sumF (encF x))).length,(encF x).length,h2,by omega,fun j hj=>by rw [qeb];exact hat j hj,?_,?_,?_⟩
 ·rw [Nat.add_assoc,qeb,hR,qeb]
  obtain⟨n,hn⟩:∃ n,(encF x).length=n+1:=⟨(encF x).length - 1,by omega⟩
  rw [hn,List.getD_cons_succ]
  rw [List.getLast?_eq_getElem?] at hlast
  have:(encF x).length - 1=n:=by omega
  rw [this] at hlast
  rw [List.getD,List.getElem?_append_left (by omega),hlast]
  rfl
 ·intro k h1 h3
  obtain⟨i,rfl⟩:∃ i,k=W.length+((zy (encF x).length (sumF (encF x))).length+(1+((encF x).length+i)))+1:=⟨k - 1 - (W.length+(zy (encF x).length (sumF (encF x))).length+1+(encF x).length),by omega⟩
  rw [List.length_append] at h3
  rw [Nat.add_sub_cancel,qeb,hR,qeb,Nat.add_comm 1,List.getD_cons_succ,qeb]
  unfold yx at htl ⊢
  have hi:i<([37,101,110,100,32]++Lib.itoa ((encF x).length:Int)).length:=by
   have:=congrArg List.length (show yx (encF x).length=([37,101,110,100,32]++Lib.itoa ((encF x).length:Int))++[10] from rfl)
   simp only [List.length_append,List.length_cons,List.length_nil] at this htl ⊢
   omega
  intro h
  have hm:(10:UInt8)∈([37,101,110,100,32]++Lib.itoa ((encF x).length:Int):Bytes):=by
   rw [List.getD,List.getElem?_append_left hi,List.getElem?_eq_getElem hi] at h
   rw [← show ([37,101,110,100,32]++Lib.itoa ((encF x).length:Int):Bytes)[i]=10 from h]
   exact List.getElem_mem hi
  rcases List.mem_append.1 hm with hm|hm
  ·simp at hm
  ·exact qg2 _ (by decide) hm
 ·intro m z hm hz
  rw [Nat.add_assoc,Nat.add_assoc,qeb] at hz
  have hs:=hset' m hm
  rw [show (zy (encF x).length (sumF (encF x))).length+1+m=(zy (encF x).length (sumF (encF x))).length+(1+m) by omega,hz] at hs
  refine⟨_,?_,by rw [hs],?_,by rw [List.length_set]⟩
  ·rw [Nat.add_assoc,Nat.add_assoc,List.set_append_right _ _ (by omega)]
   congr 2
   omega
  ·refine .inr ?_
   rw [hR,List.set_append_right _ _ (by omega),show (zy (encF x).length (sumF (encF x))).length+(1+m) - (zy (encF x).length (sumF (encF x))).length=m+1 by omega,List.set_cons_succ,w9 _ hno]
   exact hbg
theorem qo0 (z:UInt8):((z.toNat:Nat):Int)=10↔z=10:=by
 constructor
 ·intro h
  apply UInt8.toNat_inj.1
  have:(10:UInt8).toNat=10:=rfl
  omega
 ·rintro rfl
  rfl
set_option maxHeartbeats 8000000 in
theorem qud (text:Bytes) (x:List qp) (at':Int) (st:List AObj) (hA:ArgE x):qn E 8 [Sv text,jk x,Iv at'] st fun r st'=>r=Bv true∧st'=st:=by
 refine vc [.s text,.a (jk x),.i at'] (q6 _) Tryz.func8 rfl rfl (fun _=>rfl) rfl fun S0=>?_
 have hal:=q2y
 have hhv:=fun st=>q5j x st hA.1 fun y hy=>(hA.2 y hy).1
 by_cases h4:4000<text.length
 ·apply qh []
  repeat' (first|apply And.intro|(intro h;try exact cDd)|exact⟨Tryz.call40⟩|refine cpe hal ?_|exact cSd|apply qb []|refine exr ?_|refine qm ?_)
 cases hh:qdu x 0 with
 |true=>
  rw [hh] at hhv
  apply qh []
  repeat' (first|apply And.intro|(intro h;try exact cDd)|exact⟨Tryz.call40⟩|refine cpe hal ?_|exact⟨Tryz.call26⟩|refine cpe hhv ?_|exact cSd|apply qb []|refine exr ?_|refine qm ?_)
 |false=>
 rw [hh] at hhv
 have hL:=qtu hh
 have hB:=q78 hA hL
 have hx:=hL.1
 have hrt:=fun st=>qyr text st (by omega)
 have hap:=fun st=>qv4 text x st (by omega) hB (by omega)
 have hai:=@q8r text
 cases hpk:Go.Pl.appF text x with
 |mk f s=>
 rw [hpk] at hap
 dsimp only at hap
 have hai:=fun h=>hai (s:=s) (x:=x) hB (hpk.trans h)
 by_cases hr:(qay text).1 = .no∧f = .no
 case neg=>
  unfold ql2 at hrt
  clear hai hpk
  generalize qay text=q at hrt hr
  obtain⟨e,b,l⟩:=q
  cases e <;> cases f
  ·exact absurd ⟨rfl,rfl⟩ hr
  all_goals
   apply qh []
   repeat' (first|apply And.intro|(intro h;try exact cDd)|exact⟨Tryz.call40⟩|refine cpe hal ?_|exact⟨Tryz.call26⟩|refine cpe hhv ?_|exact⟨Tryz.call12⟩|refine cpe hrt ?_|exact⟨Tryz.call28⟩|refine cpe hap ?_|exact cSd|apply qb []|refine exr ?_|refine qm ?_)
 obtain⟨hr,rfl⟩:=hr
 obtain⟨b,r,hT,hp,he⟩:=q0n hr
 rw [he] at hrt
 replace hrt:∀ st,qn E 12 [Sv text] st fun q st'=>q = .tu [qe0 b,qar r.l,errA .no]∧st'=st:=hrt
 obtain⟨b',hT',hG,hs,hs2⟩:=hai rfl
 obtain rfl:b=b':=by
  have e:=qq3 hT'
  have e2:=qq3 hT
  rw [e2] at e
  simpa using e
 by_cases h10:60000<s.length
 ·apply qh []
  repeat' (first|apply And.intro|(intro h;try exact cDd)|exact⟨Tryz.call40⟩|refine cpe hal ?_|exact⟨Tryz.call26⟩|refine cpe hhv ?_|exact⟨Tryz.call12⟩|refine cpe hrt ?_|exact⟨Tryz.call28⟩|refine cpe hap ?_|exact cSd|apply qb []|refine exr ?_|refine qm ?_)
 have hokp:=(q4q b.batches hT.parse).1 (by rw [hp])
 have hS:=qnd hT
 have hw0:=hS.whole
 have hwl:=hS.wlen
 have hW:=fun st=>qua b st hS.base hS.ends
 rw [hw0] at hW
 have htk:=hT.take
 rw [hw0,Int.toNat_natCast] at htk
 have hbl:=(qu1 hT).len
 have hmb:(b.batches.map jk).length=b.batches.length:=by simp
 have hsl:s.length=(zi b).length+(recE x).length:=by rw [hs];simp
 obtain⟨hd,n,hn2,hrl,f1,f2,f3,f4⟩:=q0a hG (zi b)
 rw [← hs] at f1 f2 f3 f4
 obtain⟨m,hm,hmd,hne⟩:=q7s at' (((zi b).length+hd+1+n:Nat) - ((zi b).length+hd:Nat) - 1:Int) (by omega) (by omega)
 have hmn:m<n:=by omega
 obtain⟨t,g1,g2,g3,g4⟩:=f4 m _ hmn rfl
 obtain⟨e1,e2⟩:=q4g hT hokp g2 g3 (by simp;omega)
 rw [← g1] at e1 e2
 have hset:(s.set ((zi b).length+hd+1+m) (s.getD ((zi b).length+hd+1+m) 0 ^^^ 1)).length=s.length:=List.length_set
 have hst:=fun st=>qn9 (s.set ((zi b).length+hd+1+m) (s.getD ((zi b).length+hd+1+m) 0 ^^^ 1)) st (by omega)
 have hlf:=fun st=>qyx (s.set ((zi b).length+hd+1+m) (s.getD ((zi b).length+hd+1+m) 0 ^^^ 1)) st (by omega)
 rw [e1] at hst
 rw [e2] at hlf
 replace hlf:∀ st,qn E 42 [Sv (s.set ((zi b).length+hd+1+m) (s.getD ((zi b).length+hd+1+m) 0 ^^^ 1))] st fun r st'=>r=Sv (text.take (zi b).length)∧st'=st:=fun st=>by
  rw [htk]
  exact hlf st
 have hz:s[(zi b).length+hd+1+m]? = some (s.getD ((zi b).length+hd+1+m) 0):=by rw [List.getD,List.getElem?_eq_getElem (by omega)];rfl
 generalize s.getD ((zi b).length+hd+1+m) 0=z at hz hst hlf hset
 clear f4 g1 g2 g3 g4 e1 e2 hs hT hT' hokp hp he hr hai hpk htk hG hS
 generalize (zi b).length=W at *
 replace hst:∀ st,qn E 41 [Sv (s.set (W+hd+1+m) (z ^^^ 1))] st fun r st'=>r = .tu [Iv 3,Iv b.batches.length]∧st'=st:=hst
 apply qh []
 repeat' (first|apply And.intro|(intro h;try exact cDd)|exact⟨Tryz.call40⟩|refine cpe hal ?_|exact⟨Tryz.call26⟩|refine cpe hhv ?_|exact⟨Tryz.call12⟩|refine cpe hrt ?_|exact⟨Tryz.call28⟩|refine cpe hap ?_|exact⟨Tryz.call29⟩|refine cpe hW ?_|exact cSd|apply qb []|refine exr ?_|refine qm ?_)
 refine yt (X:=Nat) (fun k=>⟨[(0,.s text),(2,.i at'),(7,.bx 0 0),(10,.s s),(12,.i k)],[(0,some (.cells 26 [.i b.gen,.s b.base,.a (qc9 b.batches),.a (qdg b.ends),.s b.tail]))],1⟩) (fun k=>W≤k∧k≤W+hd) (fun k=>W+hd - k) W ⟨by omega,by omega⟩ ?_ ?_
 ·skip
  repeat' (first|apply And.intro|(intro h;try exact cDd)|exact cSd|apply qb []|refine exr ?_|refine qm ?_)
 ·rintro k ⟨hk1,hk2⟩
  have hfk:=f1 (k - W) (by omega)
  rw [show W+(k - W)=k by omega] at hfk
  by_cases hk:k=W+hd
  ·have h10:((s.getD k 0).toNat:Int)=10:=(qo0 _).2 (hfk.2 (by omega))
   subst hk
   apply qh []
   repeat' (first|apply And.intro|(intro h;try exact cDd)|exact cSd|apply qb []|refine exr ?_|refine qm ?_)
   refine yt (X:=Nat) (fun k=>⟨[(0,.s text),(2,.i at'),(7,.bx 0 0),(10,.s s),(12,.i (W+hd:Nat)),(13,.i k)],[(0,some (.cells 26 [.i b.gen,.s b.base,.a (qc9 b.batches),.a (qdg b.ends),.s b.tail]))],1⟩) (fun k=>W+hd+1+n≤k∧k≤s.length - 1) (fun k=>k) (s.length - 1) ⟨by omega,by omega⟩ ?_ ?_
   ·skip
    repeat' (first|apply And.intro|(intro h;try exact cDd)|exact cSd|apply qb []|refine exr ?_|refine qm ?_)
    all_goals (refine congrArg Iv ?_;omega)
   ·rintro k ⟨hk1,hk2⟩
    by_cases hk:k=W+hd+1+n
    ·have h10:((s.getD (k - 1) 0).toNat:Int)=10:=(qo0 _).2 (by rw [hk,show W+hd+1+n - 1=W+hd+n by omega];exact f2)
     subst hk
     apply qh []
     repeat' (first|apply And.intro|(intro h;try exact cDd)|(refine Exists.intro (W+hd+1+n - 1) ⟨by omega,?_⟩)|(refine qys rfl (by omega) rfl rfl rfl ?_)|(refine quj (i:=W+hd+1+m) rfl rfl rfl (congrArg (fun x=>some (IntKind.i64,x)) (by omega)) rfl rfl (by omega) ?_)|(refine qug rfl rfl rfl hz ?_)|(refine qyy (a:=z) (b:=1) rfl (fun _=>rfl) rfl (fun _=>rfl) ?_)|(refine qsk (z:=z ^^^ 1) rfl rfl (fun _=>rfl) rfl rfl (by omega) ?_)|(refine qzj rfl rfl rfl rfl rfl ?_)|exact⟨Tryz.call41⟩|refine cpe hst ?_|exact⟨Tryz.call42⟩|refine cpe hlf ?_|exact⟨Tryz.call29⟩|refine cpe hW ?_|exact cSd|apply qb []|refine exr ?_|refine qm ?_)
     all_goals (simp;done)
    ·have h10:¬ ((s.getD (k - 1) 0).toNat:Int)=10:=fun q=>f3 k (by omega) (by omega) ((qo0 _).1 q)
     apply qh []
     repeat' (first|apply And.intro|(intro h;try exact cDd)|(refine Exists.intro (k - 1) ⟨by omega,?_⟩)|(refine Exists.intro (k - 1) ⟨⟨by omega,by omega⟩,by omega,?_⟩)|exact cSd|apply qb []|refine exr ?_|refine qm ?_)
     all_goals (refine congrArg Iv ?_;omega)
  ·have h10:¬ ((s.getD k 0).toNat:Int)=10:=fun q=>hk (by have:=hfk.1 ((qo0 _).1 q);omega)
   apply qh []
   repeat' (first|apply And.intro|(intro h;try exact cDd)|(refine Exists.intro (k+1) ⟨⟨by omega,by omega⟩,by omega,?_⟩)|exact cSd|apply qb []|refine exr ?_|refine qm ?_)
theorem qwg (text:Bytes) (x:List qp) (hA:ArgE x) (at':Int) (hc : -9223372036854775808≤at'∧at'≤9223372036854775807) (st:List AObj):qn E 8 [Sv text,jk x,Iv at'] st fun r st'=>r=Bv true∧st'=st:=qud text x at' st hA
end Go.Proofs.YtmoklbacdkmkaaaGreatDoor
