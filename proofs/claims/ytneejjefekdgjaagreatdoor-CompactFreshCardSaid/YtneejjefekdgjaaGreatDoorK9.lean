/- Contracts and plain facts that the closing text leans on (part 9). No condition of their own beyond those that each states. -/
import Derived.Test.YtneejjefekdgjaaGreatDoorK8
set_option maxRecDepth 100000
set_option linter.unusedVariables false
set_option linter.unusedSimpArgs false
namespace Go.Proofs.YtneejjefekdgjaaGreatDoor
open Go Go.Av Go.RowKit Go.Proofs Go.Pl
theorem qjv (es:List EntV):∀ x∈es.map entA,x.cells.length=4:=fun x hx=>by
 obtain⟨e,_,rfl⟩:=List.mem_map.1 hx;rfl
theorem qd0 (es:List EntV):(flat (es.map entA)).length=es.length * 4:=by
 rw [zt (qjv es),List.length_map]
theorem qh8 (a b:List EntV):flat ((a++b).map entA)=flat (a.map entA)++flat (b.map entA):=by rw [List.map_append,x9]
theorem qey (A B xs:List AV) {off:Nat} (h:A.length=off):zx (A++B) off xs=A++xs++B.drop xs.length:=by
 unfold zx;rw [← h,List.take_left,List.drop_append,List.drop_eq_nil_of_le (by omega)];simp
theorem qje {cs xs:List AV} {off:Nat} (h:off+xs.length≤cs.length):(zx cs off xs).length=cs.length:=by
 unfold zx;simp;omega
theorem zkf (es:List EntV) (i:Nat) (hi:i<es.length) (hl:es.length<1000000) (st:List AObj) (c:AV) (hc:OwnS st 4 152 (es.map entA) c):qo E 230 [c,Iv i,Iv ((i:Int)+1)] st fun r st'=>OwnR 4 152 ((es.take i++es.drop (i+1)).map entA) st c r st':=by
 have e8:(es.map entA).length=es.length:=by simp
 rcases hc with⟨h0,_⟩ | ⟨o,ver,cap,pad,rfl,e2,e3,e4,e5,e6⟩
 ·rw [h0] at e8
  simp at e8;omega
 rw [e8] at e5 ⊢;have b4:=lt_of_getElem? e2;have d8:=qd0 es
 have o6:flat (es.map entA)++pad=flat ((es.take i).map entA)++(flat ((es.drop i).map entA)++pad):=by
  rw [← List.append_assoc,← qh8,List.take_append_drop]
 have pj:(flat ((es.take i).map entA)).length=i * 4:=by rw [qd0,List.length_take,Nat.min_eq_left (by omega)]
 have pw:(flat ((es.drop (i+1)).map entA)).length=(es.length - (i+1)) * 4:=by rw [qd0,List.length_drop]
 obtain⟨B1,np⟩:∃ B1,(flat ((es.drop i).map entA)++pad).drop (flat ((es.drop (i+1)).map entA)).length=B1:=⟨_,rfl⟩
 have g9:zx (flat (es.map entA)++pad) (i * 4) (flat ((es.drop (i+1)).map entA))=flat ((es.take i++es.drop (i+1)).map entA)++B1:=by
  rw [o6,qey _ _ _ pj,qh8,np]
 have cx:(flat ((es.take i++es.drop (i+1)).map entA)++B1).length=(cap+1) * 4:=by
  rw [← g9,qje (by rw [e3,pw];omega),e3]
 have gb:(es.take i++es.drop (i+1)).length=es.length - 1:=by simp;omega
 -- what is appended
 obtain⟨q,hq⟩:∃ q,(if cap+1=i+1 then 0 else 0+(i+1) * 4)=q:=⟨_,rfl⟩
 have hqz:((flat (es.map entA)++pad).drop q).take ((es.length - (i+1)) * 4)=flat ((es.drop (i+1)).map entA)∧q+(es.length - (i+1)) * 4≤(flat (es.map entA)++pad).length:=by
  rw [e3];by_cases hci:cap+1=i+1
  ·have:es.length - (i+1)=0:=by omega
   rw [if_pos hci] at hq;rw [this,← hq,List.drop_eq_nil_of_le (by omega:es.length≤i+1)];exact⟨by simp [flat],by omega⟩
  ·rw [if_neg hci] at hq
   rw [← hq];refine⟨?_,by omega⟩
   have e:flat (es.map entA)++pad=flat ((es.take (i+1)).map entA)++(flat ((es.drop (i+1)).map entA)++pad):=by
    rw [← List.append_assoc,← qh8,List.take_append_drop]
   have e':(flat ((es.take (i+1)).map entA)).length=0+(i+1) * 4:=by rw [qd0,List.length_take,Nat.min_eq_left (by omega)];omega
   rw [e,← e',List.drop_left,← pw,List.take_left]
 have o7:SrcA st 4 (.os o ver q (es.length - (i+1)) (cap+1 - (i+1))) (es.length - (i+1)) (es.length - (i+1)) (flat ((es.drop (i+1)).map entA)):=by
  have:=SrcA.os (st:=st) (sz:=4) o ver q (es.length - (i+1)) (cap+1 - (i+1)) (es.length - (i+1)) _ _ e2 hqz.2 (by rw [hqz.1];exact qc2 fun _=>rfl);rw [hqz.1] at this;exact this
 refine qp Tryz.func230 rfl (Nat.le_of_ble_eq_true rfl) ?_;rw [List.append_nil];repeat' (first|(refine z0 (sz:=4) (i:=i) (j:=i+1) (m:=es.length) rfl rfl rfl ?_ ?_ ?_ ?_ ?_ ?_ ?_;exact⟨_,rfl⟩;exact⟨_,rfl⟩;exact⟨_,rfl⟩;omega;omega;omega)|apply qn|apply qf|apply qh|apply qj|apply qg|(apply qs;(iterate 3 exact rfl))|(apply qc;exact rfl;apply vr;exact cAo)|(apply jm;(iterate 4 exact rfl))|apply qw)
 refine qwc (fun s=>StA [(0,.os o ver 0 (i+(es.length - (i+1))) (cap+1)),(7,Iv es.length)] (st.set o (.cells ver 152 (flat ((es.take i++es.drop (i+1)).map entA)++B1))) [] s) ?_ ?_
 ·refine qkq rfl rfl ?_
  (apply y3 0;exact rfl;kernel_rfl;kernel_rfl;kernel_rfl;exact rfl;exact qat)
  (apply y3 1;exact rfl;kernel_rfl;kernel_rfl;kernel_rfl;exact rfl;exact qat)
  (apply y3 3;exact rfl;kernel_rfl;kernel_rfl;kernel_rfl;exact rfl;exact qat)
  (apply y3 4;exact rfl;kernel_rfl;kernel_rfl;kernel_rfl;exact rfl;exact qat)
  refine xh [2,5] (by kernel_rfl) rfl ⟨⟨_,rfl,?_⟩,⟨_,rfl,?_⟩,trivial⟩
  ·(refine z0 (sz:=4) (i:=0) (j:=i) (m:=cap+1) rfl rfl rfl ?_ ?_ ?_ ?_ ?_ ?_ ?_;exact rfl;exact⟨_,rfl⟩;exact rfl;omega;omega;omega)
   apply qh;refine xh [5] (by kernel_rfl) rfl ⟨⟨_,rfl,?_⟩,trivial⟩
   (refine z0 (sz:=4) (i:=i+1) (j:=es.length) (m:=cap+1) rfl rfl rfl ?_ ?_ ?_ ?_ ?_ ?_ ?_;exact⟨_,rfl⟩;exact⟨rfl,rfl⟩;exact rfl;omega;omega;omega;rw [hq])
   apply qh;refine xh [6] (by kernel_rfl) rfl ⟨⟨_,rfl,?_⟩,trivial⟩
   (refine qn0 (bytes:=56) (o:=o) (ver:=ver) (n:=i) (cap:=cap+1) (m:=es.length - (i+1)) (cs:=flat (es.map entA)++pad) rfl rfl e2 o7 rfl rfl ⟨⟨_,_,rfl,rfl,rfl,rfl,rfl⟩⟩ (by omega) e3 ?_;rw [g9])
   apply qh
   (apply y3 7;exact rfl;kernel_rfl;kernel_rfl;kernel_rfl;exact rfl;exact qxn)
   refine qdh (by kernel_rfl) ?_;exact zz ⟨rfl,rfl,trivial⟩
  ·(refine z0 (sz:=4) (i:=i+1) (j:=es.length) (m:=cap+1) rfl rfl rfl ?_ ?_ ?_ ?_ ?_ ?_ ?_;exact⟨_,rfl⟩;exact⟨rfl,rfl⟩;exact rfl;omega;omega;omega;rw [hq])
   apply qh;refine xh [2] (by kernel_rfl) rfl ⟨⟨_,rfl,?_⟩,trivial⟩
   (refine z0 (sz:=4) (i:=0) (j:=i) (m:=cap+1) rfl rfl rfl ?_ ?_ ?_ ?_ ?_ ?_ ?_;exact rfl;exact⟨_,rfl⟩;exact rfl;omega;omega;omega)
   apply qh;refine xh [6] (by kernel_rfl) rfl ⟨⟨_,rfl,?_⟩,trivial⟩
   (refine qn0 (bytes:=56) (o:=o) (ver:=ver) (n:=i) (cap:=cap+1) (m:=es.length - (i+1)) (cs:=flat (es.map entA)++pad) rfl rfl e2 o7 rfl rfl ⟨⟨_,_,rfl,rfl,rfl,rfl,rfl⟩⟩ (by omega) e3 ?_;rw [g9])
   apply qh
   (apply y3 7;exact rfl;kernel_rfl;kernel_rfl;kernel_rfl;exact rfl;exact qxn)
   refine qdh (by kernel_rfl) ?_;exact zz ⟨rfl,rfl,trivial⟩
 ·rintro _ ⟨t,rfl⟩
  have bg:(st.set o (AObj.cells ver 152 (flat ((es.take i++es.drop (i+1)).map entA)++B1)))[o]? = some (.cells ver 152 (flat ((es.take i++es.drop (i+1)).map entA)++B1)):=kq e2
  have hqq:(if cap+1=i+(es.length - (i+1)) then 0 else 0+(i+(es.length - (i+1))) * 4)=(es.length - 1) * 4:=by
   rw [if_neg (by omega)];omega
  have hfe:(flat ((es.take i++es.drop (i+1)).map entA)).length=(es.length - 1) * 4:=by rw [qd0,gb]
  repeat' (first|(refine z0 (sz:=4) (i:=i+(es.length - (i+1))) (j:=es.length) (m:=cap+1) rfl rfl rfl ?_ ?_ ?_ ?_ ?_ ?_ ?_;exact⟨_,rfl⟩;exact⟨_,rfl⟩;exact rfl;omega;omega;omega;rw [hqq])|(refine q0n (sz:=4) (bytes:=56) rfl bg rfl ⟨⟨_,_,rfl,rfl,rfl,rfl,rfl⟩⟩ rfl (by rw [cx];omega) fun zs hz=>?_)|apply qn|apply qf|apply qh|apply qj|apply qg|(apply jm;(iterate 4 exact rfl))|apply qt)
  refine qm rfl (q5 rfl) ?_
  show OwnR 4 152 _ st _ (.os o ver 0 (i+(es.length - (i+1))) (cap+1)) ((st.set o _).set o (.cells ver 152 (zx (flat ((es.take i++es.drop (i+1)).map entA)++B1) ((es.length - 1) * 4) zs)))
  rw [List.set_set,qey _ _ _ hfe,List.append_assoc];have hB1l:(es.length - 1) * 4+B1.length=(cap+1) * 4:=by rw [← hfe,← List.length_append];exact cx
  have pn:zs.length=4:=by rw [hz];omega
  refine⟨.inr ⟨o,ver,cap,zs++B1.drop zs.length,?_,kq e2,?_,qjv _,?_,e6⟩,by simp,fun j hj a6=>List.getElem?_set_ne fun e=>a6 (by rw [e];rfl),fun o' b6=>.inr b6⟩
  ·rw [List.length_map,gb]
   congr 1;omega
  ·rw [List.length_append,List.length_append,List.length_drop,hfe,pn]
   omega
  ·rw [List.length_map,gb]
   omega
theorem zir (e:EntV) (st:List AObj) (c:AV) (hnr:qdd c):qo E 231 [c,Iv 0,.sl 4 [entA e] none] st fun r st'=>OwnR 4 152 [entA e] st c r st':=by
 refine qp Tryz.func231 rfl (Nat.le_of_ble_eq_true rfl) ?_;rw [List.append_nil];repeat' (first|(apply jm (n:=1);(iterate 4 exact rfl))|(refine q0r (sz:=4) rfl hnr.val rfl rfl ?_ ?_;exact⟨_,rfl⟩)|(apply jm;exact rfl;exact hnr.len;exact rfl;exact rfl)|(refine qfj (sz:=4) (ys:=[entA e]) (bytes:=56) hnr.val (fun _ _ h=>h) rfl rfl ⟨⟨_,_,rfl,rfl,rfl,rfl,rfl⟩⟩ rfl (by simp) (by simp [maxLen]) (by simp) fun cap pad q1 q2 q3 q4=>?_)|apply qn|apply qf|apply qh|apply qj|apply qg|(apply qs;(iterate 3 exact rfl))|(apply qc;exact rfl;apply vf;exact cAo)|(apply qc;exact rfl;apply vr;exact cAo)|apply qw|apply qt)
 refine qm rfl (q5 rfl) ?_
 show OwnR 4 152 _ st c (.os st.length 0 0 _ (cap+1)) (st++[_])
 refine⟨.inr ⟨_,0,cap,pad,rfl,x7,q1,q2,q3,q4⟩,qg9,fun j hj _=>List.getElem?_append_left hj,fun o ho=>?_⟩;simp only [zq,Option.some.injEq] at ho;left;omega
theorem zis (es:List EntV) (e:EntV) (hl:es.length<1000000) (st:List AObj) (o ver cap:Nat) (pad:List AV) (e2:st[o]? = some (.cells ver 152 (flat (es.map entA)++pad))) (e3:(flat (es.map entA)++pad).length=(cap+1) * 4) (e5:es.length≤cap+1) (e6:cap+1≤maxLen) :
  qo E 231 [.os o ver 0 es.length (cap+1),Iv es.length,.sl 4 [entA e] none] st fun r st'=>OwnR 4 152 (es.map entA++[entA e]) st (.os o ver 0 es.length (cap+1)) r st':=by
 have e8:(es.map entA).length=es.length:=by simp
 have b4:=lt_of_getElem? e2
 have hV0:Vec 4 152 o (es.map entA) (.os o ver 0 es.length (cap+1)) (.cells ver 152 (flat (es.map entA)++pad)):=by
  have:=Vec.os (o:=o) (T:=152) (xs:=es.map entA) ver (cap+1) pad e3 (qjv _) (by omega) e6;rw [e8] at this;exact this
 refine qp Tryz.func231 rfl (Nat.le_of_ble_eq_true rfl) ?_;rw [List.append_nil];repeat' (first|(apply jm (n:=1);(iterate 4 exact rfl))|(refine z0 (sz:=4) (i:=es.length) (j:=es.length) (m:=cap+1) rfl rfl rfl ?_ ?_ ?_ ?_ ?_ ?_ ?_;exact⟨_,rfl⟩;exact⟨rfl,rfl⟩;exact rfl;omega;omega;omega)|(refine qn1 (sz:=4) (bytes:=56) (o:=o) (xs:=es.map entA) (ys:=[entA e]) rfl (fun _ _ h=>h) hV0 e2 rfl rfl ⟨⟨_,_,rfl,rfl,rfl,rfl,rfl⟩⟩ rfl (by simp [maxLen];omega) (by simp;omega) fun a' ob' hV=>?_)|apply qn|apply qf|apply qh|apply qj|apply qg|(apply qs;(iterate 3 exact rfl))|(apply qc;exact rfl;apply vf;exact cAo)|(apply qc;exact rfl;apply vr;exact cAo)|(apply jm;(iterate 4 exact rfl))|apply qw|apply qt)
 rcases q32 hV with⟨q,_,_⟩ | ⟨ver',cap',pad',rfl,rfl,q1,q2,q3,q4⟩
 ·simp at q
 ·obtain⟨cap',rfl⟩:∃ c,cap'=c+1:=⟨cap' - 1,by simp at q3;omega⟩
  refine qm rfl (q5 rfl) ?_
  show OwnR 4 152 _ st _ (.os o ver' 0 _ (cap'+1)) (st.set o _)
  exact⟨.inr ⟨o,ver',cap',pad',rfl,kq e2,q1,q2,q3,q4⟩,by simp,fun j hj a6=>List.getElem?_set_ne fun e=>a6 (by rw [e];rfl),fun o' b6=>.inr b6⟩
theorem q2t (w:World) (a b:Addr) (la ca lb cb:Nat) (tA tB:TypeId) (kA kB:Nat) (h1:a.block≠b.block) (h2:w.shape? a.block=some (tA,kA)) (h3:w.shape? b.block=some (tB,kB)) (h4:kA≠0) (h5:w.frozen? b=false) (h6:w.frozen? { block:=b.block,off:=kB }=false) :
  (callFunc 287 #[.slice (some a) la ca,.slice (some b) lb cb]).run E.P w = .ok (.value (.bool false)) w:=by
 have hz:∀ w,(Go.sizeOf 152).run E.P w = .ok 4 w:=fun w=>(vj (agg:=true) rfl w).1
 rw [run_callFunc_extern (P:=E.P) Tryz.func287 (by kernel_rfl) (by kernel_rfl) (by kernel_rfl) (e:=Extern.SlicesOverlaps.overlaps #[154,154] #[4]) (by kernel_rfl),
  qsy w 154 4 152 rfl 4 hz a b la ca lb cb h1 tA tB kA kB h2 h3 h4 h5 h6]
 rfl
structure InsB (es:List EntV) (e:EntV) (i cap:Nat) (pad:List AV):Prop where
 t4:(flat ((es.take i).map entA)).length=i * 4
 d4:(flat ((es.drop i).map entA)).length=(es.length - i) * 4
 split:flat (es.map entA)++pad=flat ((es.take i).map entA)++(flat ((es.drop i).map entA)++pad)
 take:(flat (es.map entA)++pad).take (i * 4)=flat ((es.take i).map entA)
 drop:((flat (es.map entA)++pad).drop (0+i * 4)).take ((es.length - i) * 4)=flat ((es.drop i).map entA)
 new:flat ((es.take i++e::es.drop i).map entA)=flat ((es.take i).map entA)++flat [entA e]++flat ((es.drop i).map entA)
 nl:(es.take i++e::es.drop i).length=es.length+1
 src:∀ o ver L c' (S:List AObj),(flat (es.map entA)++pad).length=(cap+1) * 4→es.length≤cap+1→S[o]? = some (.cells ver 152 (flat (es.map entA)++pad))→SrcA S 4 (.os o ver (0+i * 4) L c') L (es.length - i) (flat ((es.drop i).map entA))
theorem insB (es:List EntV) (e:EntV) (i cap:Nat) (pad:List AV) (hi:i<es.length):InsB es e i cap pad:=by
 have pj:(flat ((es.take i).map entA)).length=i * 4:=by rw [qd0,List.length_take,Nat.min_eq_left (by omega)]
 have pw:(flat ((es.drop i).map entA)).length=(es.length - i) * 4:=by rw [qd0,List.length_drop]
 have o6:flat (es.map entA)++pad=flat ((es.take i).map entA)++(flat ((es.drop i).map entA)++pad):=by
  rw [← List.append_assoc,← qh8,List.take_append_drop]
 have tg:((flat (es.map entA)++pad).drop (0+i * 4)).take ((es.length - i) * 4)=flat ((es.drop i).map entA):=by rw [Nat.zero_add,o6,← pj,List.drop_left,← pw,List.take_left]
 refine⟨pj,pw,o6,by rw [o6,← pj,List.take_left],tg,?_,by simp;omega,fun o ver L c' S e3 e5 hS=>?_⟩
 ·rw [qh8]
  simp [flat]
 ·have:=SrcA.os (st:=S) (sz:=4) o ver (0+i * 4) L c' (es.length - i) _ _ hS (by rw [e3];omega) (by rw [tg];exact qc2 fun _=>rfl)
  rw [tg] at this;exact this
set_option maxHeartbeats 4000000 in
theorem ziu (es:List EntV) (e:EntV) (i:Nat) (hi:i<es.length) (hl:es.length<1000000) (st:List AObj) (o ver cap:Nat) (pad:List AV) (e2:st[o]? = some (.cells ver 152 (flat (es.map entA)++pad))) (e3:(flat (es.map entA)++pad).length=(cap+1) * 4) (e5:es.length+1≤cap+1) (e6:cap+1≤maxLen) :
  qo E 231 [.os o ver 0 es.length (cap+1),Iv i,.sl 4 [entA e] none] st fun r st'=>OwnR 4 152 ((es.take i++e::es.drop i).map entA) st (.os o ver 0 es.length (cap+1)) r st':=by
 have hI:=insB es e i cap pad hi;have b4:=lt_of_getElem? e2;have tk:(flat [entA e]).length=4:=rfl;have pj:=hI.t4;have pw:=hI.d4;have tq:(if cap+1=i then 0 else 0+i * 4)=0+i * 4:=if_neg (by omega);have bq:(if cap+1=i+1 then 0 else 0+(i+1) * 4)=(i+1) * 4:=by rw [if_neg (by omega)];omega
 obtain⟨B1,np⟩:∃ B1,(flat ((es.drop i).map entA)++pad).drop 4=B1:=⟨_,rfl⟩;obtain⟨A1,bw⟩:∃ A1,(flat ((es.drop i).map entA)++pad).take 4=A1:=⟨_,rfl⟩
 have hA1l:A1.length=4:=by
  rw [← bw,List.length_take,List.length_append,pw];omega
 obtain⟨X1,hX1⟩:∃ X1,flat ((es.take i).map entA)++A1++flat ((es.drop i).map entA)++B1.drop ((es.length - i) * 4)=X1:=⟨_,rfl⟩
 have lm:zx (flat (es.map entA)++pad) ((i+1) * 4) (flat ((es.drop i).map entA))=X1:=by
  have e1:flat (es.map entA)++pad=(flat ((es.take i).map entA)++A1)++B1:=by rw [hI.split,List.append_assoc,← bw,← np,List.take_append_drop]
  rw [e1,qey _ _ _ (by rw [List.length_append,pj,hA1l];omega),pw,hX1]
 have gj:zx X1 (0+i * 4) (flat [entA e])=flat ((es.take i++e::es.drop i).map entA)++B1.drop ((es.length - i) * 4):=by
  have e1:X1=flat ((es.take i).map entA)++(A1++(flat ((es.drop i).map entA)++B1.drop ((es.length - i) * 4))):=by rw [← hX1];simp
  rw [e1,qey _ _ _ (by rw [pj];omega),tk,List.drop_append_of_le_length (by omega),List.drop_eq_nil_of_le (by omega:A1.length≤4),hI.new];simp
 have hsl1:X1.length=(cap+1) * 4:=by
  rw [← lm,qje (by rw [e3,pw];omega),e3]
 have hsl2:(flat ((es.take i++e::es.drop i).map entA)++B1.drop ((es.length - i) * 4)).length=(cap+1) * 4:=by
  rw [← gj,qje (by rw [hsl1,tk];omega),hsl1]
 have o7:=hI.src o ver (es.length+1 - i) (cap+1 - i) st e3 (by omega) e2;have gq:=hI.nl;generalize hXn:flat ((es.take i++e::es.drop i).map entA)++B1.drop ((es.length - i) * 4)=Xn at gj hsl2;clear hX1 np bw hI pj pw;generalize hdz:flat ((es.drop i).map entA)=dz at lm o7;refine qp Tryz.func231 rfl (Nat.le_of_ble_eq_true rfl) ?_;rw [List.append_nil];generalize flat (es.map entA)++pad=X0 at e2 e3 lm;repeat' (first|apply qn|apply qf|apply qh|apply qj|apply qg)
 refine z0 (o:=o) (ver:=ver) (off:=0) (len:=es.length) (cap:=cap+1) (sz:=4) (i:=i) (j:=es.length) (m:=cap+1) rfl rfl rfl ?_ ?_ ?_ (by omega) (by omega) (by omega) ?_
 ·exact⟨_,rfl⟩
 ·exact⟨rfl,rfl⟩
 ·exact rfl
 repeat' (first|(apply jm (n:=1);(iterate 4 exact rfl))|apply qn|apply qf|apply qh|apply qj|apply qg|(apply qs;(iterate 3 exact rfl))|(apply qc;exact rfl;apply vr;exact cAo)|(apply jm;(iterate 4 exact rfl))|(apply zl;exact rfl;exact rfl;exact q6 (by omega) (by omega))|apply qw)
 refine qte rfl rfl rfl ?_;repeat' (first|apply qn|apply qf|apply qh|apply qj|(apply qs;(iterate 3 exact rfl))|(apply qc;exact rfl;apply vr;exact cAo)|(apply zl;exact rfl;exact rfl;exact q6 (by omega) (by omega))|apply qw)
 refine z0 (o:=o) (ver:=ver) (off:=0) (len:=es.length) (cap:=cap+1) (sz:=4) (i:=0) (j:=es.length+1) (m:=cap+1) rfl rfl rfl ?_ ?_ ?_ (by omega) (by omega) (by omega) ?_
 ·exact rfl
 ·exact⟨_,rfl⟩
 ·exact rfl
 repeat' (first|apply qn|apply qf|apply qh|apply qj|apply qg|(apply zl;exact rfl;exact rfl;exact q6 (by omega) (by omega)))
 refine z0 (o:=o) (ver:=ver) (off:=0) (len:=es.length+1) (cap:=cap+1) (sz:=4) (i:=i+1) (j:=es.length+1) (m:=cap+1) rfl rfl rfl ?_ ?_ ?_ (by omega) (by omega) (by omega) ?_
 ·exact⟨_,rfl⟩
 ·exact⟨rfl,rfl⟩
 ·exact rfl
 rw [bq];repeat' (first|(apply q1d;first|apply qn|apply qy|apply qf|(apply qc;exact rfl;apply vf;exact cAo)|(apply qc;exact rfl;apply vr;exact cAo)|(apply qc;exact rfl;apply qi0;exact cRa)|(apply qc;exact rfl;apply qiz;exact cRa)|(apply qc;exact rfl;apply cd_n <;> intro h)|(apply qc;exact rfl;apply cd_t;exact cRa)|(apply qc;exact rfl;apply cd_f;exact cRa)|(apply qc;exact rfl;apply cd_d <;> intro h)|(apply qc;exact rfl;apply cd_s <;> intro h)|apply qw|apply jd|apply qt)|(apply qt0;first|(apply qu;(iterate 4 exact rfl))|(apply qae;(iterate 4 exact rfl)))|(apply q55;first|(apply wy;exact cAo)|(apply vt;exact cAo)|(apply v7;exact cAo)|(apply xb;exact cAo)|(apply qo6;exact cRa)|(apply y5;exact cRa)|(apply qa1;exact cRa)|(apply qm0;exact cRa)|(apply qgp <;> intro h)|(apply yu;exact cRa)|(apply qd3;exact cRa)|(apply qaq;exact cRa)|(apply w9;exact cRa)|(apply jj <;> intro h)|(apply qfn <;> intro h))|(apply q54;first|apply qh5|(apply qv6;(iterate 4 exact rfl))|(apply q0v;exact rfl;exact rfl;exact q6 (by omega) (by omega))|(apply qv8;(iterate 4 exact rfl);exact cAs;exact cAs)|(apply qll;(iterate 5 exact rfl))|(apply qh4;exact rfl;exact rfl;exact cOs)|(apply qiu;(iterate 3 exact rfl))|(apply qlk;(iterate 5 exact rfl))|(apply qgl;(iterate 4 exact rfl))|(apply qko;(iterate 3 exact rfl))|(apply q0u;(iterate 3 exact rfl);exact cAs)|(apply qv7;exact rfl;exact rfl)|(apply qr2;exact rfl;exact rfl)|(apply qr4;(iterate 3 exact rfl);omega)|(apply qok;(iterate 3 exact rfl))|apply qfx|apply qh3|(apply qtl;exact rfl;exact rfl;exact q6 (by omega) (by omega))|(apply q5x;(iterate 3 exact rfl))|(apply qqc;(iterate 3 exact rfl);exact cAs)|(apply qqb;(iterate 3 exact rfl);exact cAs)|(apply qmo;exact rfl;exact rfl))|(apply qtz;first|(apply qs;(iterate 3 exact rfl))|(apply jk;(iterate 3 exact rfl))|(apply jp;exact rfl;exact rfl;exact cOs)|(apply zl;exact rfl;exact rfl;exact q6 (by omega) (by omega))|(apply xc;exact rfl;exact rfl;exact q6 (by omega) (by omega))|(apply w6;exact rfl;exact rfl)|(apply vw;exact rfl;exact rfl)|(apply qaw;exact rfl;exact rfl)|(apply qde;exact rfl;exact rfl)|(apply qax;(iterate 3 exact rfl))|(apply qfc;(iterate 3 exact rfl))|(apply qc4;exact rfl;exact rfl;(first|exact jb _|exact rfl);first|exact jb _|exact rfl)|(apply qis;exact rfl;exact rfl;(first|exact jb _|exact rfl);first|exact jb _|exact rfl)|(apply qxi;exact rfl;exact rfl;(first|exact jb _|exact rfl);first|exact jb _|exact rfl)|(apply qeg;(iterate 3 exact rfl))|(apply qgi;(iterate 3 exact rfl)))|(apply qx4;first|(apply jn;(iterate 3 exact rfl))|(apply qii;(iterate 5 exact rfl))|(apply jl;(iterate 5 exact rfl)))|(apply qx5;first|(apply qmn;exact rfl)|(apply z7;exact rfl)|(apply qgg;exact rfl))|(apply qt1;first|(apply qa5;(iterate 3 exact rfl);exact cAs)|(apply qfu;(iterate 3 exact rfl);exact cAs)|(apply qfv;(iterate 4 exact rfl);exact cAs;exact cAs)|(apply qg2;(iterate 4 exact rfl);(first|assumption|omega|exact Nat.succ_le_succ (Nat.zero_le _)|(simp;omega));exact rfl))|(apply qx3;first|(apply zo;(iterate 3 exact rfl))|(apply jm;(iterate 4 exact rfl)))|(apply ql4;first|(apply zj;(iterate 3 exact rfl))|(apply xy;(iterate 4 exact rfl)))|(apply qt2;first|(apply qeh;(iterate 11 exact rfl))|(apply z4;(iterate 11 exact rfl)))|(apply q1e;first|apply qh|apply qj|apply qg|(apply zf;exact rfl;exact rfl)|(apply qi;exact rfl;apply wt;exact cAo)|(apply qi;exact rfl;apply wj;exact cAo)|(apply qi;exact rfl;apply qhu;exact cRa)|(apply qi;exact rfl;apply qer;exact cRa)|(apply qi;exact rfl;apply pk_t;exact cRa)|(apply qi;exact rfl;apply pk_f;exact cRa)|(apply vh;exact rfl;exact rfl)|apply qfb|(apply jw;exact rfl;exact rfl)|(apply qbd;(iterate 4 exact rfl))|(apply qit;(iterate 3 exact rfl))|(apply wa;(iterate 3 exact rfl);exact cAs)|(apply xw;(iterate 3 exact rfl))|(apply v6;(iterate 9 exact rfl))|(apply wm;exact rfl;exact rfl)|(apply qhl;(iterate 4 exact rfl);(first|assumption|omega|decide);exact rfl)|(apply qbs;(iterate 4 exact rfl);first|assumption|omega|decide)))
 refine qzg (xs:=[entA e]) (o:=o) (ver:=ver) rfl rfl e2 (by simp [flat,AV.cells]) q2t ?_;repeat' (first|apply qn|apply qh|(apply z7;exact rfl)|(apply qc;exact rfl;apply qi0;exact cRa))
 refine qfy [(0,.os o ver 0 (es.length+1) (cap+1)),(1,Iv i),(2,.sl 4 [entA e] none),(7,Iv 1)] st [] ⟨rfl,rfl,rfl,rfl,trivial⟩ rfl rfl fun t=>?_;refine qwc (fun s=>StA [(0,.os o ver 0 (es.length+1) (cap+1)),(1,Iv i),(2,.sl 4 [entA e] none)] (st.set o (.cells ver 152 X1)) [] s) ?_ ?_
 ·refine qkq rfl rfl ?_
  (apply y3 0;exact rfl;kernel_rfl;kernel_rfl;kernel_rfl;exact rfl;exact qat)
  (apply y3 1;exact rfl;kernel_rfl;kernel_rfl;kernel_rfl;exact rfl;exact qat)
  (apply y3 2;exact rfl;kernel_rfl;kernel_rfl;kernel_rfl;exact rfl;exact qat)
  (apply y3 5;exact rfl;kernel_rfl;kernel_rfl;kernel_rfl;exact rfl;exact qat)
  (apply y3 6;exact rfl;kernel_rfl;kernel_rfl;kernel_rfl;exact rfl;exact qat)
  refine xh [3,7] (by kernel_rfl) rfl ⟨⟨_,rfl,?_⟩,⟨_,rfl,?_⟩,trivial⟩
  ·(apply zl;exact rfl;exact rfl;exact q6 (by omega) (by omega))
   apply qh;refine xh [4,7] (by kernel_rfl) rfl ⟨⟨_,rfl,?_⟩,⟨_,rfl,?_⟩,trivial⟩
   ·(refine z0 (o:=o) (ver:=ver) (off:=0) (len:=es.length+1) (cap:=cap+1) (sz:=4) (i:=i+1) (j:=es.length+1) (m:=cap+1) rfl rfl rfl ?_ ?_ ?_ (by omega) (by omega) (by omega) ?_;exact⟨_,rfl⟩;exact⟨rfl,rfl⟩;exact rfl;rw [bq])
    apply qh;refine xh [7] (by kernel_rfl) rfl ⟨⟨_,rfl,?_⟩,trivial⟩
    (refine z0 (o:=o) (ver:=ver) (off:=0) (len:=es.length+1) (cap:=cap+1) (sz:=4) (i:=i) (j:=es.length+1) (m:=cap+1) rfl rfl rfl ?_ ?_ ?_ (by omega) (by omega) (by omega) ?_;exact⟨_,rfl⟩;exact⟨rfl,rfl⟩;exact rfl;rw [tq])
    apply qh;refine xh [8] (by kernel_rfl) rfl ⟨⟨_,rfl,?_⟩,trivial⟩
    (refine qa4 (o:=o) (ver:=ver) (off:=(i+1) * 4) (sz:=4) (bytes:=56) (m:=es.length - i) rfl rfl e2 o7 ?_ rfl ⟨⟨_,_,rfl,rfl,rfl,rfl,rfl⟩⟩ ?_ ?_;(show min _ _=_;omega);(rw [e3];omega);rw [lm])
    apply qh;refine qdh (by kernel_rfl) ?_;exact zz ⟨rfl,rfl,rfl,trivial⟩
   ·(refine z0 (o:=o) (ver:=ver) (off:=0) (len:=es.length+1) (cap:=cap+1) (sz:=4) (i:=i) (j:=es.length+1) (m:=cap+1) rfl rfl rfl ?_ ?_ ?_ (by omega) (by omega) (by omega) ?_;exact⟨_,rfl⟩;exact⟨rfl,rfl⟩;exact rfl;rw [tq])
    apply qh;refine xh [4] (by kernel_rfl) rfl ⟨⟨_,rfl,?_⟩,trivial⟩
    (refine z0 (o:=o) (ver:=ver) (off:=0) (len:=es.length+1) (cap:=cap+1) (sz:=4) (i:=i+1) (j:=es.length+1) (m:=cap+1) rfl rfl rfl ?_ ?_ ?_ (by omega) (by omega) (by omega) ?_;exact⟨_,rfl⟩;exact⟨rfl,rfl⟩;exact rfl;rw [bq])
    apply qh;refine xh [8] (by kernel_rfl) rfl ⟨⟨_,rfl,?_⟩,trivial⟩
    (refine qa4 (o:=o) (ver:=ver) (off:=(i+1) * 4) (sz:=4) (bytes:=56) (m:=es.length - i) rfl rfl e2 o7 ?_ rfl ⟨⟨_,_,rfl,rfl,rfl,rfl,rfl⟩⟩ ?_ ?_;(show min _ _=_;omega);(rw [e3];omega);rw [lm])
    apply qh;refine qdh (by kernel_rfl) ?_;exact zz ⟨rfl,rfl,rfl,trivial⟩
  ·(refine z0 (o:=o) (ver:=ver) (off:=0) (len:=es.length+1) (cap:=cap+1) (sz:=4) (i:=i) (j:=es.length+1) (m:=cap+1) rfl rfl rfl ?_ ?_ ?_ (by omega) (by omega) (by omega) ?_;exact⟨_,rfl⟩;exact⟨rfl,rfl⟩;exact rfl;rw [tq])
   apply qh;refine xh [3] (by kernel_rfl) rfl ⟨⟨_,rfl,?_⟩,trivial⟩
   (apply zl;exact rfl;exact rfl;exact q6 (by omega) (by omega))
   apply qh;refine xh [4] (by kernel_rfl) rfl ⟨⟨_,rfl,?_⟩,trivial⟩
   (refine z0 (o:=o) (ver:=ver) (off:=0) (len:=es.length+1) (cap:=cap+1) (sz:=4) (i:=i+1) (j:=es.length+1) (m:=cap+1) rfl rfl rfl ?_ ?_ ?_ (by omega) (by omega) (by omega) ?_;exact⟨_,rfl⟩;exact⟨rfl,rfl⟩;exact rfl;rw [bq])
   apply qh;refine xh [8] (by kernel_rfl) rfl ⟨⟨_,rfl,?_⟩,trivial⟩
   (refine qa4 (o:=o) (ver:=ver) (off:=(i+1) * 4) (sz:=4) (bytes:=56) (m:=es.length - i) rfl rfl e2 o7 ?_ rfl ⟨⟨_,_,rfl,rfl,rfl,rfl,rfl⟩⟩ ?_ ?_;(show min _ _=_;omega);(rw [e3];omega);rw [lm])
   apply qh;refine qdh (by kernel_rfl) ?_;exact zz ⟨rfl,rfl,rfl,trivial⟩
 ·rintro _ ⟨t,rfl⟩
  have bg:(st.set o (AObj.cells ver 152 X1))[o]? = some (.cells ver 152 X1):=kq e2;repeat' (first|apply qn|apply qf|apply qj)
  refine z0 (o:=o) (ver:=ver) (off:=0) (len:=es.length+1) (cap:=cap+1) (sz:=4) (i:=i) (j:=es.length+1) (m:=cap+1) rfl rfl rfl ?_ ?_ ?_ (by omega) (by omega) (by omega) ?_
  ·exact⟨_,rfl⟩
  ·exact⟨rfl,rfl⟩
  ·exact rfl
  rw [tq];repeat' (first|apply qj)
  refine qa4 (o:=o) (ver:=ver) (off:=0+i * 4) (sz:=4) (bytes:=56) (L:=1) (m:=1) rfl rfl bg (.sl [entA e] none rfl) ?_ rfl ⟨⟨_,_,rfl,rfl,rfl,rfl,rfl⟩⟩ ?_ ?_
  ·show min _ _=_
   omega
  ·rw [hsl1]
   omega
  rw [gj];repeat' (first|apply qn|apply qf|apply qh|apply qj|apply qg|apply qt)
  refine qm rfl (q5 rfl) ?_
  show OwnR 4 152 _ st _ (.os o ver 0 (es.length+1) (cap+1)) ((st.set o _).set o (.cells ver 152 Xn))
  rw [List.set_set,← hXn];rw [← hXn] at hsl2;exact⟨.inr ⟨o,ver,cap,_,by rw [List.length_map,gq],kq e2,hsl2,qjv _,by rw [List.length_map,gq];omega,e6⟩,by simp,fun j hj a6=>List.getElem?_set_ne fun e=>a6 (by rw [e];rfl),fun o' b6=>.inr b6⟩
set_option maxHeartbeats 4000000 in
theorem zit (es:List EntV) (e:EntV) (i:Nat) (hi:i<es.length) (hl:es.length<1000000) (st:List AObj) (o ver cap:Nat) (pad:List AV) (e2:st[o]? = some (.cells ver 152 (flat (es.map entA)++pad))) (e3:(flat (es.map entA)++pad).length=(cap+1) * 4) (e5:es.length=cap+1) (e6:cap+1≤maxLen) :
  qo E 231 [.os o ver 0 es.length (cap+1),Iv i,.sl 4 [entA e] none] st fun r st'=>OwnR 4 152 ((es.take i++e::es.drop i).map entA) st (.os o ver 0 es.length (cap+1)) r st':=by
 have hI:=insB es e i cap pad hi;have b4:=lt_of_getElem? e2;have tk:(flat [entA e]).length=4:=rfl;have pj:=hI.t4;have pw:=hI.d4;have pk:=hI.take;have tq:(if cap+1=i then 0 else 0+i * 4)=0+i * 4:=if_neg (by omega);have o7:=fun S=>hI.src o ver (es.length - i) (cap+1 - i) S e3 (by omega);have gq:=hI.nl;have i4:=hI.new;have hk9:Iv ((es.length:Int)+1 - i)=Iv ((es.length+1 - i:Nat):Int):=congrArg (fun z:Int=>Iv z) (by omega);have hkk:i+(es.length+1 - i)=es.length+1:=by omega
 generalize flat ((es.drop i).map entA)=dz at o7 pw i4;refine qp Tryz.func231 rfl (Nat.le_of_ble_eq_true rfl) ?_;rw [List.append_nil];generalize flat (es.map entA)++pad=X0 at e2 e3 pk o7;repeat' (first|apply qn|apply qf|apply qh|apply qj|apply qg)
 refine z0 (o:=o) (ver:=ver) (off:=0) (len:=es.length) (cap:=cap+1) (sz:=4) (i:=i) (j:=es.length) (m:=cap+1) rfl rfl rfl ?_ ?_ ?_ (by omega) (by omega) (by omega) ?_
 ·exact⟨_,rfl⟩
 ·exact⟨rfl,rfl⟩
 ·exact rfl
 repeat' (first|(apply jm (n:=1);(iterate 4 exact rfl))|apply qn|apply qf|apply qh|apply qj|apply qg|(apply qs;(iterate 3 exact rfl))|(apply qc;exact rfl;apply vr;exact cAo)|(apply jm;(iterate 4 exact rfl))|(apply zl;exact rfl;exact rfl;exact q6 (by omega) (by omega))|apply qw)
 refine qte rfl rfl rfl ?_;refine qti [(0,.os o ver 0 es.length (cap+1)),(1,Iv i),(2,.sl 4 [entA e] none),(7,Iv 1),(8,Iv es.length),(28,Iv ((es.length:Int)+1)),(30,Iv ((cap+1:Nat):Int))] st [] ⟨rfl,rfl,rfl,rfl,rfl,rfl,rfl,trivial⟩ rfl rfl fun t=>?_;repeat' (first|apply qn|apply qf|apply qh|apply qj|(apply qs;(iterate 3 exact rfl))|(apply qc;exact rfl;apply vf;exact cAo))
 refine z0 (o:=o) (ver:=ver) (off:=0) (len:=es.length) (cap:=cap+1) (sz:=4) (i:=0) (j:=i) (m:=cap+1) rfl rfl rfl ?_ ?_ ?_ (by omega) (by omega) (by omega) ?_
 ·exact rfl
 ·exact⟨_,rfl⟩
 ·exact rfl
 repeat' (first|apply qj|(apply zl;exact rfl;exact rfl;exact q6 (by omega) (by omega))|(apply xc;exact rfl;exact rfl;exact q6 (by omega) (by omega)))
 refine qr0 (sz:=4) (bytes:=56) (o:=o) (ver:=ver) (n:=i) (cap:=cap+1) (k:=es.length+1 - i) (cs:=X0) rfl hk9 e2 rfl rfl ⟨⟨_,_,rfl,rfl,rfl,rfl,rfl⟩⟩ (by omega) (by omega) (by omega) (by rw [e3];omega) (by simp only [maxLen];omega) (by omega) fun cap' zs z1 z2 z3=>?_;rw [hkk,pk];refine qti [(0,.os o ver 0 es.length (cap+1)),(1,Iv i),(2,.sl 4 [entA e] none),(7,Iv 1),(40,.os st.length 0 0 (es.length+1) cap')] (st++[.cells 0 152 (flat ((es.take i).map entA)++zs)]) [] ⟨rfl,rfl,rfl,rfl,rfl,trivial⟩ rfl rfl fun t=>?_;obtain⟨cap',rfl⟩:∃ c,cap'=c+1:=⟨cap' - 1,by omega⟩;have hi3:(if cap'+1=i then 0 else 0+i * 4)=0+i * 4:=if_neg (by omega);have hi4:(if cap'+1=i+1 then 0 else 0+(i+1) * 4)=(i+1) * 4:=by rw [if_neg (by omega)];omega
 have lm:zx (flat ((es.take i).map entA)++zs) (0+i * 4) (flat [entA e])=(flat ((es.take i).map entA)++flat [entA e])++zs.drop 4:=qey _ _ _ (by rw [pj];omega)
 have gj:zx ((flat ((es.take i).map entA)++flat [entA e])++zs.drop 4) ((i+1) * 4) dz=flat ((es.take i++e::es.drop i).map entA)++(zs.drop 4).drop dz.length:=by
  rw [qey _ _ _ (by rw [List.length_append,pj,tk];omega),i4]
 have r6:((flat ((es.take i).map entA)++flat [entA e])++zs.drop 4).length=(cap'+1) * 4:=by
  simp only [List.length_append,List.length_drop,pj,tk,z1];omega
 have lf:(flat ((es.take i++e::es.drop i).map entA)++(zs.drop 4).drop dz.length).length=(cap'+1) * 4:=by
  rw [← gj,qje (by rw [r6,pw];omega),r6]
 have ml:(flat ((es.take i).map entA)++zs).length=(cap'+1) * 4:=by
  rw [List.length_append,pj,z1];omega
 repeat' (first|apply qn|apply qf|apply qh|apply qj|apply qg)
 refine z0 (o:=st.length) (ver:=0) (off:=0) (len:=es.length+1) (cap:=cap'+1) (sz:=4) (i:=i) (j:=es.length+1) (m:=cap'+1) rfl rfl rfl ?_ ?_ ?_ (by omega) (by omega) (by omega) ?_
 ·exact⟨_,rfl⟩
 ·exact⟨rfl,rfl⟩
 ·exact rfl
 rw [hi3];repeat' (first|apply qj)
 refine qa4 (o:=st.length) (ver:=0) (off:=0+i * 4) (sz:=4) (bytes:=56) (L:=1) (m:=1) rfl rfl x7 (.sl [entA e] none rfl) ?_ rfl ⟨⟨_,_,rfl,rfl,rfl,rfl,rfl⟩⟩ ?_ ?_
 ·show min _ _=_
  omega
 ·rw [ml]
  omega
 rw [lm];generalize hX1:(flat ((es.take i).map entA)++flat [entA e])++zs.drop 4=X1 at gj r6;have hbo:(st++[AObj.cells 0 152 (flat ((es.take i).map entA)++zs)])[st.length]? = some (.cells 0 152 (flat ((es.take i).map entA)++zs)):=x7;have sk:((st++[AObj.cells 0 152 (flat ((es.take i).map entA)++zs)]).set st.length (.cells 0 152 X1))[st.length]? = some (.cells 0 152 X1):=kq hbo
 have hS1o:((st++[AObj.cells 0 152 (flat ((es.take i).map entA)++zs)]).set st.length (.cells 0 152 X1))[o]? = some (.cells ver 152 X0):=by
  rw [List.getElem?_set_ne (by omega),List.getElem?_append_left b4];exact e2
 have hS1j:∀ j,j<st.length→((st++[AObj.cells 0 152 (flat ((es.take i).map entA)++zs)]).set st.length (.cells 0 152 X1))[j]? = st[j]?:=fun j hj=>by
  rw [List.getElem?_set_ne (by omega),List.getElem?_append_left hj]
 have hS1l:((st++[AObj.cells 0 152 (flat ((es.take i).map entA)++zs)]).set st.length (.cells 0 152 X1)).length=st.length+1:=by simp
 repeat' (first|apply qn|apply qh)
 refine qfy [(0,.os o ver 0 es.length (cap+1)),(1,Iv i),(7,Iv 1),(9,.os st.length 0 0 (es.length+1) (cap'+1))] ((st++[AObj.cells 0 152 (flat ((es.take i).map entA)++zs)]).set st.length (.cells 0 152 X1)) [] ⟨rfl,rfl,rfl,rfl,trivial⟩ rfl rfl fun t=>?_;generalize (st++[AObj.cells 0 152 (flat ((es.take i).map entA)++zs)]).set st.length (.cells 0 152 X1)=S1 at sk hS1o hS1j hS1l;refine qwc (fun s=>StA [(9,.os st.length 0 0 (es.length+1) (cap'+1))] (S1.set st.length (.cells 0 152 (flat ((es.take i++e::es.drop i).map entA)++(zs.drop 4).drop dz.length))) [] s) ?_ ?_
 ·refine qkq rfl rfl ?_
  (apply y3 0;exact rfl;kernel_rfl;kernel_rfl;kernel_rfl;exact rfl;exact qat)
  (apply y3 1;exact rfl;kernel_rfl;kernel_rfl;kernel_rfl;exact rfl;exact qat)
  (apply y3 2;exact rfl;kernel_rfl;kernel_rfl;kernel_rfl;exact rfl;exact qat)
  (apply y3 5;exact rfl;kernel_rfl;kernel_rfl;kernel_rfl;exact rfl;exact qat)
  (apply y3 6;exact rfl;kernel_rfl;kernel_rfl;kernel_rfl;exact rfl;exact qat)
  refine xh [3,7] (by kernel_rfl) rfl ⟨⟨_,rfl,?_⟩,⟨_,rfl,?_⟩,trivial⟩
  ·(apply zl;exact rfl;exact rfl;exact q6 (by omega) (by omega))
   apply qh;refine xh [4,7] (by kernel_rfl) rfl ⟨⟨_,rfl,?_⟩,⟨_,rfl,?_⟩,trivial⟩
   ·(refine z0 (o:=st.length) (ver:=0) (off:=0) (len:=es.length+1) (cap:=cap'+1) (sz:=4) (i:=i+1) (j:=es.length+1) (m:=cap'+1) rfl rfl rfl ?_ ?_ ?_ (by omega) (by omega) (by omega) ?_;exact⟨_,rfl⟩;exact⟨rfl,rfl⟩;exact rfl;rw [hi4])
    apply qh;refine xh [7] (by kernel_rfl) rfl ⟨⟨_,rfl,?_⟩,trivial⟩
    (refine z0 (o:=o) (ver:=ver) (off:=0) (len:=es.length) (cap:=cap+1) (sz:=4) (i:=i) (j:=es.length) (m:=cap+1) rfl rfl rfl ?_ ?_ ?_ (by omega) (by omega) (by omega) ?_;exact⟨_,rfl⟩;exact⟨rfl,rfl⟩;exact rfl;rw [tq])
    apply qh;refine xh [8] (by kernel_rfl) rfl ⟨⟨_,rfl,?_⟩,trivial⟩
    (refine qa4 (o:=st.length) (ver:=0) (off:=(i+1) * 4) (sz:=4) (bytes:=56) (m:=es.length - i) rfl rfl sk (o7 S1 hS1o) ?_ rfl ⟨⟨_,_,rfl,rfl,rfl,rfl,rfl⟩⟩ ?_ ?_;(show min _ _=_;omega);(rw [r6];omega);rw [gj])
    apply qh;refine qdh (by kernel_rfl) ?_;exact zz ⟨rfl,trivial⟩
   ·(refine z0 (o:=o) (ver:=ver) (off:=0) (len:=es.length) (cap:=cap+1) (sz:=4) (i:=i) (j:=es.length) (m:=cap+1) rfl rfl rfl ?_ ?_ ?_ (by omega) (by omega) (by omega) ?_;exact⟨_,rfl⟩;exact⟨rfl,rfl⟩;exact rfl;rw [tq])
    apply qh;refine xh [4] (by kernel_rfl) rfl ⟨⟨_,rfl,?_⟩,trivial⟩
    (refine z0 (o:=st.length) (ver:=0) (off:=0) (len:=es.length+1) (cap:=cap'+1) (sz:=4) (i:=i+1) (j:=es.length+1) (m:=cap'+1) rfl rfl rfl ?_ ?_ ?_ (by omega) (by omega) (by omega) ?_;exact⟨_,rfl⟩;exact⟨rfl,rfl⟩;exact rfl;rw [hi4])
    apply qh;refine xh [8] (by kernel_rfl) rfl ⟨⟨_,rfl,?_⟩,trivial⟩
    (refine qa4 (o:=st.length) (ver:=0) (off:=(i+1) * 4) (sz:=4) (bytes:=56) (m:=es.length - i) rfl rfl sk (o7 S1 hS1o) ?_ rfl ⟨⟨_,_,rfl,rfl,rfl,rfl,rfl⟩⟩ ?_ ?_;(show min _ _=_;omega);(rw [r6];omega);rw [gj])
    apply qh;refine qdh (by kernel_rfl) ?_;exact zz ⟨rfl,trivial⟩
  ·(refine z0 (o:=o) (ver:=ver) (off:=0) (len:=es.length) (cap:=cap+1) (sz:=4) (i:=i) (j:=es.length) (m:=cap+1) rfl rfl rfl ?_ ?_ ?_ (by omega) (by omega) (by omega) ?_;exact⟨_,rfl⟩;exact⟨rfl,rfl⟩;exact rfl;rw [tq])
   apply qh;refine xh [3] (by kernel_rfl) rfl ⟨⟨_,rfl,?_⟩,trivial⟩
   (apply zl;exact rfl;exact rfl;exact q6 (by omega) (by omega))
   apply qh;refine xh [4] (by kernel_rfl) rfl ⟨⟨_,rfl,?_⟩,trivial⟩
   (refine z0 (o:=st.length) (ver:=0) (off:=0) (len:=es.length+1) (cap:=cap'+1) (sz:=4) (i:=i+1) (j:=es.length+1) (m:=cap'+1) rfl rfl rfl ?_ ?_ ?_ (by omega) (by omega) (by omega) ?_;exact⟨_,rfl⟩;exact⟨rfl,rfl⟩;exact rfl;rw [hi4])
   apply qh;refine xh [8] (by kernel_rfl) rfl ⟨⟨_,rfl,?_⟩,trivial⟩
   (refine qa4 (o:=st.length) (ver:=0) (off:=(i+1) * 4) (sz:=4) (bytes:=56) (m:=es.length - i) rfl rfl sk (o7 S1 hS1o) ?_ rfl ⟨⟨_,_,rfl,rfl,rfl,rfl,rfl⟩⟩ ?_ ?_;(show min _ _=_;omega);(rw [r6];omega);rw [gj])
   apply qh;refine qdh (by kernel_rfl) ?_;exact zz ⟨rfl,trivial⟩
 ·rintro _ ⟨t,rfl⟩
  repeat' (first|apply qn|apply qf|apply qh|apply qj|apply qg|apply qt)
  refine qm rfl (q5 rfl) ?_
  show OwnR 4 152 _ st _ (.os st.length 0 0 (es.length+1) (cap'+1)) (S1.set st.length (.cells 0 152 (flat ((es.take i++e::es.drop i).map entA)++(zs.drop 4).drop dz.length)))
  refine⟨.inr ⟨st.length,0,cap',_,by rw [List.length_map,gq],kq sk,lf,qjv _,by rw [List.length_map,gq];omega,z3⟩,by rw [List.length_set,hS1l];omega,fun j hj _=>?_,fun o' b6=>?_⟩
  ·rw [List.getElem?_set_ne (by omega)]
   exact hS1j j hj
  ·simp only [zq,Option.some.injEq] at b6
   left;omega
theorem zch (es:List EntV) (e:EntV) (i:Nat) (hi:i≤es.length) (hl:es.length<1000000) (st:List AObj) (c:AV) (hc:OwnS st 4 152 (es.map entA) c):qo E 231 [c,Iv i,.sl 4 [entA e] none] st fun r st'=>OwnR 4 152 ((es.take i++e::es.drop i).map entA) st c r st':=by
 have e8:(es.map entA).length=es.length:=by simp
 have hap:i=es.length→(es.take i++e::es.drop i).map entA=es.map entA++[entA e]:=fun h=>by subst h;simp
 rcases hc with⟨h0,hnr⟩ | ⟨o,ver,cap,pad,rfl,e2,e3,e4,e5,e6⟩
 ·have hes:es=[]:=by simpa using h0
  subst hes;obtain rfl:i=0:=by simpa using hi
  rw [hap rfl];exact zir e st c hnr
 ·rw [e8] at e5 ⊢
  by_cases pd:i=es.length
  ·rw [hap pd]
   subst pd;exact zis es e hl st o ver cap pad e2 e3 e5 e6
  ·by_cases f8:es.length+1≤cap+1
   ·exact ziu es e i (by omega) hl st o ver cap pad e2 e3 f8 e6
   ·exact zit es e i (by omega) hl st o ver cap pad e2 e3 (by omega) e6
end Go.Proofs.YtneejjefekdgjaaGreatDoor
namespace Go.Pl
open Go Go.Proofs
def qlf (l:qz) (i:Nat) (x:ze):qz:=match l.ents[i]? with
 |some e=>⟨l.ents.set i ⟨x,e.id⟩,l.next,l.many⟩
 |none=>l
def y8 (l:qz) (id:Int) (fs:List Fld):ErrV×qz:=if atF l id<0 then (.num 7,l) else if jx fs = .no then (.no,qlf l (atF l id).toNat (yx fs)) else (jx fs,l)
def delL (l:qz) (i:Nat):qz:=⟨l.ents.take i++l.ents.drop (i+1),l.next,l.many - 1⟩
def delF (l:qz) (id:Int):ErrV×qz:=if atF l id<0 then (.num 7,l) else (.no,delL l (atF l id).toNat)
def insL (l:qz) (k:Nat) (x:ze):qz:=⟨l.ents.take k++⟨x,l.next⟩::l.ents.drop k,l.next+1,l.many+1⟩
def insF (l:qz) (id:Int) (fs:List Fld):Int×ErrV×qz:=
 if atF l id<0∧id≠0 then (0,.num 7,l) else if jx fs = .no then (if 400≤l.many then (0,.num 11,l) else (l.next,.no,insL l (atF l id+1).toNat (yx fs))) else (0,jx fs,l)
structure LB (n:Nat) (l:qz):Prop where
 small:n<900000
 len:l.ents.length≤n
 nx0:1≤l.next
 nx1:l.next≤n+1
 mn0 : -(n:Int)≤l.many
 mn1:l.many≤n
theorem zfp {n:Nat} {l:qz} (h:LB n l) (hs:n+1<900000) (id:Int) (fs:List Fld):LB (n+1) (y8 l id fs).2:=by
 have h1:=h.len;have h2:=h.nx0;have h3:=h.nx1;have h4:=h.mn0;have h5:=h.mn1;unfold y8;split
 ·exact⟨hs,by simp only;omega,h2,by simp only;omega,by simp only;omega,by simp only;omega⟩
 ·split
  ·unfold qlf
   split
   ·exact⟨hs,by simp;omega,h2,by simp only;omega,by simp only;omega,by simp only;omega⟩
   ·exact⟨hs,by simp only;omega,h2,by simp only;omega,by simp only;omega,by simp only;omega⟩
  ·exact⟨hs,by simp only;omega,h2,by simp only;omega,by simp only;omega,by simp only;omega⟩
theorem zhe {n:Nat} {l:qz} (h:LB n l) (hs:n+1<900000) (id:Int):LB (n+1) (delF l id).2:=by
 have h1:=h.len;have h2:=h.nx0;have h3:=h.nx1;have h4:=h.mn0;have h5:=h.mn1;unfold delF;split
 ·exact⟨hs,by simp only;omega,h2,by simp only;omega,by simp only;omega,by simp only;omega⟩
 ·exact⟨hs,by simp [delL];omega,h2,by simp only [delL];omega,by simp only [delL];omega,by simp only [delL];omega⟩
theorem zhr {n:Nat} {l:qz} (h:LB n l) (hs:n+1<900000) (id:Int) (fs:List Fld):LB (n+1) (insF l id fs).2.2:=by
 have h1:=h.len;have h2:=h.nx0;have h3:=h.nx1;have h4:=h.mn0;have h5:=h.mn1;have same:LB (n+1) l:=⟨hs,by omega,h2,by omega,by omega,by omega⟩;unfold insF;split
 ·exact same
 ·split
  ·split
   ·exact same
   ·exact⟨hs,by simp [insL];omega,by simp only [insL];omega,by simp only [insL];omega,by simp only [insL];omega,by simp only [insL];omega⟩
  ·exact same
end Go.Pl
namespace Go.Proofs.YtneejjefekdgjaaGreatDoor
open Go Go.Av Go.RowKit Go.Proofs Go.Pl
def oneF (l:qz) (x:qr):Int×ErrV×qz:=if x.kind=1 then (0,y8 l x.id x.fields) else if x.kind=2 then (0,delF l x.id) else insF l x.id x.fields
theorem qqm {n:Nat} {l:qz} (h:LB n l) (hs:n+1<900000) (x:qr):LB (n+1) (oneF l x).2.2:=by
 unfold oneF;split
 ·exact zfp h hs _ _
 ·split
  ·exact zhe h hs _
  ·exact zhr h hs _ _
theorem zhy (l:qz) (hl:l.ents.length<1000000):v4 E 93 [.a (vm l)] 0 (hpF []) ⟨.bx 0 0,wb [],lstH 1 l++ww [],2⟩:=by
 refine yj [.a (vm l)] [] 0 (.bx 0 0) (lstH 1 l) 2 Tryz.func93 rfl rfl rfl rfl fun S F ρ=>?_;apply qd [19];repeat' (first|apply And.intro|(intro h;try exact cDd)|exact⟨Tryz.call153⟩|(refine Exists.intro _ ⟨q4k [.sl 4 (l.ents.map entA) none] _ (fun _=>rfl) (fun st=>q7u l.ents st hl),?_⟩)|exact cSd|apply qb [19]|refine exr ?_|refine qe ?_)
theorem zh3 (n:Nat) (l:qz) (id:Int) (fs:List Fld) (hB:LB n l) (hK:KeyB fs) (hl:fs.length<1000000):v4 E 154 [.bx 0 0,.i id,.a (jr fs)] 2 (hpF (lstH 1 l)) ⟨.a (errA (y8 l id fs).1),wb (lstH 1 l),lstH 2 (y8 l id fs).2++ww (lstH 1 l),3⟩:=by
 refine yj [.bx 0 0,.i id,.a (jr fs)] (lstH 1 l) 2 (.a (errA (y8 l id fs).1)) (lstH 2 (y8 l id fs).2) 3 Tryz.func154 rfl rfl rfl rfl fun S F ρ=>?_;have b0:=hB.len;have hsm:=hB.small;have h1:=qwb l id (by omega);have h2:=fun st=>q6t fs st hK hl;unfold y8;rcases qdx l id with h | ⟨i,e,h,he,o9,tv⟩
 ·rw [h] at h1 ⊢
  rw [if_pos (by decide)];apply qd [];repeat' (first|apply And.intro|(intro h;try exact cDd)|exact⟨Tryz.call77⟩|(refine j6 h1 ?_)|exact cSd|apply qb []|refine exr ?_|refine qe ?_)
 ·rw [h] at h1 ⊢
  rw [if_neg (by omega)];have hm:(l.ents.map entA)[i]? = some (entA e):=by rw [List.getElem?_map,he];rfl
  have db:=lt_of_getElem? hm;unfold yx at h2 ⊢
  cases hc:jx fs with
  |no=>
   rw [hc,if_pos rfl] at h2;rw [if_pos rfl,if_pos rfl];unfold qlf;rw [Int.toNat_natCast,he];apply qd [];repeat' (first|apply And.intro|(intro h;try exact cDd)|exact⟨Tryz.call77⟩|(refine j6 h1 ?_)|exact⟨Tryz.call229⟩|refine cpe h2 ?_|(refine qha (i:=i) rfl rfl rfl rfl rfl rfl (by omega) ?_)|(refine zbq (i:=i) (j:=0) (z:=entA e) (z':=entA ⟨⟨3,zu fs,fs⟩,e.id⟩) (u:=jh ⟨3,zu fs,fs⟩) rfl rfl (fun _=>rfl) rfl rfl rfl hm rfl rfl ?_)|exact cSd|apply qb []|refine exr ?_|refine qe ?_)
   all_goals (simp [List.map_set];done)
  |num m=>
   rw [hc,if_neg (by simp)] at h2;rw [if_neg (by simp)];apply qd []
   repeat' (first|apply And.intro|(intro h;try exact cDd)|exact⟨Tryz.call77⟩|(refine j6 h1 ?_)|exact⟨Tryz.call229⟩|refine cpe h2 ?_|exact cSd|apply qb []|refine exr ?_|refine qe ?_)
  |at' a m=>
   rw [hc,if_neg (by simp)] at h2;rw [if_neg (by simp)];apply qd [];repeat' (first|apply And.intro|(intro h;try exact cDd)|exact⟨Tryz.call77⟩|(refine j6 h1 ?_)|exact⟨Tryz.call229⟩|refine cpe h2 ?_|exact cSd|apply qb []|refine exr ?_|refine qe ?_)
theorem zju (n:Nat) (l:qz) (id:Int) (hB:LB n l):v4 E 155 [.bx 0 0,.i id] 2 (hpF (lstH 1 l)) ⟨.a (errA (delF l id).1),wb (lstH 1 l),lstH 2 (delF l id).2++ww (lstH 1 l),3⟩:=by
 refine yj [.bx 0 0,.i id] (lstH 1 l) 2 (.a (errA (delF l id).1)) (lstH 2 (delF l id).2) 3 Tryz.func155 rfl rfl rfl rfl fun S F ρ=>?_;have b0:=hB.len;have hsm:=hB.small;have h4:=hB.mn0;have h5:=hB.mn1;have h1:=qwb l id (by omega);unfold delF;rcases qdx l id with h | ⟨i,e,h,he,o9,tv⟩
 ·rw [h] at h1 ⊢
  rw [if_pos (by decide)];apply qd [];repeat' (first|apply And.intro|(intro h;try exact cDd)|exact⟨Tryz.call77⟩|(refine j6 h1 ?_)|exact cSd|apply qb []|refine exr ?_|refine qe ?_)
 ·rw [h] at h1 ⊢
  rw [if_neg (by omega)];have db:=lt_of_getElem? he;have h2:=qr8 (f:=230) (E:=E) (xs:=l.ents.map entA) [Iv i,Iv ((i:Int)+1)] rfl (fun st c hc=>zkf l.ents i db (by omega) st c hc);unfold delL;rw [Int.toNat_natCast];apply qd [];repeat' (first|apply And.intro|(intro h;try exact cDd)|exact⟨Tryz.call77⟩|(refine j6 h1 ?_)|exact⟨Tryz.call230⟩|(refine j6 h2 ?_)|exact cSd|apply qb []|refine exr ?_|refine qe ?_)
theorem zjy (n:Nat) (l:qz) (id:Int) (fs:List Fld) (hB:LB n l) (hK:KeyB fs) (hl:fs.length<1000000):v4 E 156 [.bx 0 0,.i id,.a (jr fs)] 2 (hpF (lstH 1 l)) ⟨.tu [.i (insF l id fs).1,.a (errA (insF l id fs).2.1)],wb (lstH 1 l),lstH 2 (insF l id fs).2.2++ww (lstH 1 l),3⟩:=by
 refine yj [.bx 0 0,.i id,.a (jr fs)] (lstH 1 l) 2 (.tu [.i (insF l id fs).1,.a (errA (insF l id fs).2.1)]) (lstH 2 (insF l id fs).2.2) 3 Tryz.func156 rfl rfl rfl rfl fun S F ρ=>?_;have b0:=hB.len;have hsm:=hB.small;have h4:=hB.mn0;have h5:=hB.mn1;have h6:=hB.nx0;have h7:=hB.nx1;have h1:=qwb l id (by omega);have h2:=fun st=>q6t fs st hK hl;unfold insF;rcases qdx l id with h | ⟨i,e,h,he,o9,tv⟩
 ·rw [h] at h1 ⊢
  by_cases h0:id=0
  ·rw [if_neg (fun q=>q.2 h0)]
   rw [show ((-1:Int)+1).toNat=0 from rfl];unfold yx at h2 ⊢
   cases hc:jx fs with
   |no=>
    rw [hc,if_pos rfl] at h2;rw [if_pos rfl,if_pos rfl];by_cases hm:400≤l.many
    ·rw [if_pos hm]
     apply qd [];repeat' (first|apply And.intro|(intro h;try exact cDd)|exact⟨Tryz.call77⟩|(refine j6 h1 ?_)|exact⟨Tryz.call229⟩|refine cpe h2 ?_|exact cSd|apply qb []|refine exr ?_|refine qe ?_)
    ·rw [if_neg hm]
     have h3:=qr8 (f:=231) (E:=E) (xs:=l.ents.map entA) [Iv ((0:Nat):Int),.sl 4 [entA ⟨⟨3,zu fs,fs⟩,l.next⟩] none] rfl (fun st c hc=>zch l.ents ⟨⟨3,zu fs,fs⟩,l.next⟩ (0) (by omega) (by omega) st c hc);unfold insL;apply qd []
     repeat' (first|apply And.intro|(intro h;try exact cDd)|exact⟨Tryz.call77⟩|(refine j6 h1 ?_)|exact⟨Tryz.call229⟩|refine cpe h2 ?_|exact⟨Tryz.call231⟩|(refine j6 h3 ?_)|exact cSd|apply qb []|refine exr ?_|refine qe ?_)
   |num m=>
    rw [hc,if_neg (by simp)] at h2;rw [if_neg (by simp)];apply qd []
    repeat' (first|apply And.intro|(intro h;try exact cDd)|exact⟨Tryz.call77⟩|(refine j6 h1 ?_)|exact⟨Tryz.call229⟩|refine cpe h2 ?_|exact cSd|apply qb []|refine exr ?_|refine qe ?_)
   |at' a m=>
    rw [hc,if_neg (by simp)] at h2;rw [if_neg (by simp)];apply qd [];repeat' (first|apply And.intro|(intro h;try exact cDd)|exact⟨Tryz.call77⟩|(refine j6 h1 ?_)|exact⟨Tryz.call229⟩|refine cpe h2 ?_|exact cSd|apply qb []|refine exr ?_|refine qe ?_)
  ·rw [if_pos ⟨by decide,h0⟩]
   apply qd [];repeat' (first|apply And.intro|(intro h;try exact cDd)|exact⟨Tryz.call77⟩|(refine j6 h1 ?_)|exact cSd|apply qb []|refine exr ?_|refine qe ?_)
 ·rw [h] at h1 ⊢
  have db:=lt_of_getElem? he;rw [if_neg (fun q=>absurd q.1 (by omega))];rw [show ((i:Int)+1).toNat=i+1 from rfl];unfold yx at h2 ⊢
  cases hc:jx fs with
  |no=>
   rw [hc,if_pos rfl] at h2;rw [if_pos rfl,if_pos rfl];by_cases hm:400≤l.many
   ·rw [if_pos hm]
    apply qd [];repeat' (first|apply And.intro|(intro h;try exact cDd)|exact⟨Tryz.call77⟩|(refine j6 h1 ?_)|exact⟨Tryz.call229⟩|refine cpe h2 ?_|exact cSd|apply qb []|refine exr ?_|refine qe ?_)
   ·rw [if_neg hm]
    have h3:=qr8 (f:=231) (E:=E) (xs:=l.ents.map entA) [Iv ((i+1:Nat):Int),.sl 4 [entA ⟨⟨3,zu fs,fs⟩,l.next⟩] none] rfl (fun st c hc=>zch l.ents ⟨⟨3,zu fs,fs⟩,l.next⟩ (i+1) (by omega) (by omega) st c hc);unfold insL;apply qd []
    repeat' (first|apply And.intro|(intro h;try exact cDd)|exact⟨Tryz.call77⟩|(refine j6 h1 ?_)|exact⟨Tryz.call229⟩|refine cpe h2 ?_|exact⟨Tryz.call231⟩|(refine j6 h3 ?_)|exact cSd|apply qb []|refine exr ?_|refine qe ?_)
  |num m=>
   rw [hc,if_neg (by simp)] at h2;rw [if_neg (by simp)];apply qd []
   repeat' (first|apply And.intro|(intro h;try exact cDd)|exact⟨Tryz.call77⟩|(refine j6 h1 ?_)|exact⟨Tryz.call229⟩|refine cpe h2 ?_|exact cSd|apply qb []|refine exr ?_|refine qe ?_)
  |at' a m=>
   rw [hc,if_neg (by simp)] at h2;rw [if_neg (by simp)];apply qd [];repeat' (first|apply And.intro|(intro h;try exact cDd)|exact⟨Tryz.call77⟩|(refine j6 h1 ?_)|exact⟨Tryz.call229⟩|refine cpe h2 ?_|exact cSd|apply qb []|refine exr ?_|refine qe ?_)
def xj:Nat→List qr→qz→List Int→ErrV×qz×List Int
 | _,[],l,ids=>(.no,l,ids)
 |k,x::r,l,ids=>if (oneF l x).2.1 = .no then xj (k+1) r (oneF l x).2.2 (if 0<(oneF l x).1 then ids++[(oneF l x).1] else ids) else (.at' k (oneF l x).2.1.code,l,ids)
def doF (l:qz) (b:List qr):ErrV×qz×List Int:=if eErr b = .no then xj 0 b l [] else (eErr b,l,[])
def doA (r:ErrV×qz×List Int):AV:=match r.1 with
 | .no=>.tu [vm r.2.1,yf r.2.2,errA .no]
 |e=>.tu [.v (.pointer none),yf [],errA e]
theorem zd3 (r:ErrV×qz×List Int):Pure (doA r):=by
 unfold doA;split
 ·exact yy (qi7 _) (qa2 _) (km _)
 ·exact yy (qq _) (qa2 _) (km _)
theorem qpo {l:qz} {x:qr} (h:(oneF l x).2.1≠.no):(oneF l x).2.1.code≠0:=by
 have key:∀ fs:List Fld,jx fs≠.no→(jx fs).code≠0:=fun fs h h'=>h ((qjt fs).1 h');unfold oneF at h ⊢;split
 ·rename_i h1
  rw [if_pos h1] at h;unfold y8 at h ⊢;split
  ·exact (by decide:(ErrV.num 7).code≠0)
  ·rename_i h2
   rw [if_neg h2] at h;split
   ·rename_i h3
    rw [if_pos h3] at h;exact absurd rfl h
   ·exact key _ (by assumption)
 ·rename_i h1
  rw [if_neg h1] at h;split
  ·rename_i h2
   rw [if_pos h2] at h;unfold delF at h ⊢;split
   ·exact (by decide:(ErrV.num 7).code≠0)
   ·rename_i h3
    rw [if_neg h3] at h;exact absurd rfl h
  ·rename_i h2
   rw [if_neg h2] at h;unfold insF at h ⊢;split
   ·exact (by decide:(ErrV.num 7).code≠0)
   ·rename_i h3
    rw [if_neg h3] at h;split
    ·rename_i h4
     rw [if_pos h4] at h;split
     ·exact (by decide:(ErrV.num 11).code≠0)
     ·rename_i h5
      rw [if_neg h5] at h;exact absurd rfl h
    ·exact key _ (by assumption)
theorem zjk (n:Nat) (l:qz) (x:qr) (hB:LB n l) (hK:KeyB x.fields) (hl:x.fields.length<1000000):v4 E 94 [.bx 0 0,.a (ji x)] 2 (hpF (lstH 1 l)) ⟨.tu [.i (oneF l x).1,.a (errA (oneF l x).2.1)],wb (lstH 1 l),lstH 2 (oneF l x).2.2++ww (lstH 1 l),3⟩:=by
 refine yj [.bx 0 0,.a (ji x)] (lstH 1 l) 2 (.tu [.i (oneF l x).1,.a (errA (oneF l x).2.1)]) (lstH 2 (oneF l x).2.2) 3 Tryz.func94 rfl rfl rfl rfl fun S F ρ=>?_;unfold oneF;by_cases h1:x.kind=1
 ·rw [if_pos h1]
  have hc:=zh3 n l x.id x.fields hB hK hl;generalize y8 l x.id x.fields=r at hc;apply qd [];repeat' (first|apply And.intro|(intro h;try exact cDd)|exact⟨Tryz.call154⟩|(refine j6 hc ?_)|exact cSd|apply qb []|refine exr ?_|refine qe ?_)
 ·rw [if_neg h1]
  by_cases h2:x.kind=2
  ·rw [if_pos h2]
   have hc:=zju n l x.id hB;generalize delF l x.id=r at hc;apply qd [];repeat' (first|apply And.intro|(intro h;try exact cDd)|exact⟨Tryz.call155⟩|(refine j6 hc ?_)|exact cSd|apply qb []|refine exr ?_|refine qe ?_)
  ·rw [if_neg h2]
   have hc:=zjy n l x.id x.fields hB hK hl;generalize insF l x.id x.fields=r at hc;apply qd [];repeat' (first|apply And.intro|(intro h;try exact cDd)|exact⟨Tryz.call156⟩|(refine j6 hc ?_)|exact cSd|apply qb []|refine exr ?_|refine qe ?_)
theorem zgd (n:Nat) (l:qz) (b:List qr) (st:List AObj) (hB:LB n l) (hn:n+40<900000) (hE:∀ x∈b,EdB x) (hl:b.length<1000000):qo E 46 [vm l,jo b] st fun r st'=>r=doA (doF l b)∧st'=st:=by
 refine qnl [.a (vm l),.a (jo b)] (zd3 _) Tryz.func46 rfl rfl (fun _=>rfl) rfl fun S0=>?_;have cn:=fun st=>qmt b st _ rfl hE (by omega);unfold doF
 cases he:eErr b with
 |num m=>
  rw [he] at cn;rw [if_neg (by simp)];apply qd []
  repeat' (first|apply And.intro|(intro h;try exact cDd)|exact⟨Tryz.call92⟩|refine cpe cn ?_|exact cSd|apply qb []|refine exr ?_|refine qe ?_)
 |at' a m=>
  rw [he] at cn;rw [if_neg (by simp)];apply qd []
  repeat' (first|apply And.intro|(intro h;try exact cDd)|exact⟨Tryz.call92⟩|refine cpe cn ?_|exact cSd|apply qb []|refine exr ?_|refine qe ?_)
 |no=>
  rw [he] at cn;rw [if_pos rfl];obtain⟨i5,hb40,hg⟩:=qdk he;have nv:=zhy l (by have:=hB.len;omega);apply qd [];repeat' (first|apply And.intro|(intro h;try exact cDd)|exact⟨Tryz.call92⟩|refine cpe cn ?_|exact⟨Tryz.call93⟩|(refine j6 nv ?_)|exact cSd|apply qb []|refine exr ?_|refine qe ?_)
  refine zw (X:=Nat×qz×List Int) (fun (k,q,ids)=>⟨[(8,.bx 0 0),(9,.tp 2),(21,.a (jo b)),(22,.i b.length),(23,.i k)],[(0,some (.cells 156 [.tp 1,.i q.next,.i q.many])),(1,some (.own 4 152 (q.ents.map entA))),(2,some (.tip 1 3 (ids.map fun x=>Iv x)))],3⟩)
   (fun (k,q,ids)=>k≤b.length∧LB (n+k) q∧ids.length≤k∧xj k (b.drop k) q ids=xj 0 b l []) (fun (k,q,ids)=>b.length - k) (0,l,[]) ⟨by omega,hB,by simp,rfl⟩ ?_ ?_
  ·skip
   repeat' (first|apply And.intro|(intro h;try exact cDd)|exact cSd|apply qb []|refine exr ?_|refine qe ?_)
   all_goals (simp;done)
  ·rintro⟨k,q,ids⟩ ⟨hk,hq,db,a4⟩
   by_cases b8:k<b.length
   ·have hx:b[k]? = some b[k]:=List.getElem?_eq_getElem b8
    have c8:(b.map ji)[k]? = some (ji b[k]):=by rw [List.getElem?_map,hx];rfl
    have hxE:=hE b[k] (List.getElem_mem b8);have hxf:=(qjk (hg b[k] (List.getElem_mem b8))).1;rw [List.drop_eq_getElem_cons b8,xj] at a4;have hidl:(ids.map fun x=>Iv x).length=ids.length:=by simp
    generalize b[k]=x at hx c8 hxE hxf a4;have gc:=zjk (n+k) q x hq hxE.keys (by omega);have mq:=qqm hq (by omega) x;have s8:=fun h=>qpo (l:=q) (x:=x) h;generalize oneF q x=o at gc mq s8 a4;obtain⟨id,e,q'⟩:=o;dsimp only at gc mq s8 a4
    cases e with
    |no=>
     rw [if_pos rfl] at a4;by_cases h0:0<id
     ·rw [if_pos h0] at a4
      apply qd [];repeat' (first|apply And.intro|(intro h;try exact cDd)|(refine Exists.intro (k) ⟨by omega,_,c8,?_⟩)|exact⟨Tryz.call94⟩|(refine j6 gc ?_)|(refine Exists.intro (k+1,q',ids++[id]) ⟨⟨by omega,mq,by simp;omega,a4⟩,by simp only;omega,?_⟩)|exact cSd|apply qb []|refine exr ?_|refine qe ?_)
      all_goals first|(simp;done)|(simp;omega)
     ·rw [if_neg h0] at a4
      apply qd [];repeat' (first|apply And.intro|(intro h;try exact cDd)|(refine Exists.intro (k) ⟨by omega,_,c8,?_⟩)|exact⟨Tryz.call94⟩|(refine j6 gc ?_)|(refine Exists.intro (k+1,q',ids) ⟨⟨by omega,mq,by first|omega|(simp only;omega),a4⟩,by simp only;omega,?_⟩)|exact cSd|apply qb []|refine exr ?_|refine qe ?_)
      all_goals first|(simp;done)|(simp;omega)
    |num m=>
     rw [if_neg (by simp)] at a4;rw [← a4];have rv:=fun st=>qsc k (.num m) st (s8 (by simp));apply qd []
     repeat' (first|apply And.intro|(intro h;try exact cDd)|(refine Exists.intro (k) ⟨by omega,_,c8,?_⟩)|exact⟨Tryz.call94⟩|(refine j6 gc ?_)|exact⟨Tryz.call95⟩|refine cpe rv ?_|exact cSd|apply qb []|refine exr ?_|refine qe ?_)
    |at' a m=>
     rw [if_neg (by simp)] at a4;rw [← a4];have rv:=fun st=>qsc k (.at' a m) st (s8 (by simp));apply qd [];repeat' (first|apply And.intro|(intro h;try exact cDd)|(refine Exists.intro (k) ⟨by omega,_,c8,?_⟩)|exact⟨Tryz.call94⟩|(refine j6 gc ?_)|exact⟨Tryz.call95⟩|refine cpe rv ?_|exact cSd|apply qb []|refine exr ?_|refine qe ?_)
   ·have b8:k=b.length:=by omega
    subst b8;rw [List.drop_length,xj] at a4;rw [← a4];apply qd [];repeat' (first|apply And.intro|(intro h;try exact cDd)|exact cSd|apply qb []|refine exr ?_|refine qe ?_)
structure RunV where
 l:qz
 given:List (List Int)
 touched:List Int
def qcx (b:List qr):List Int:=(b.filter fun x=>decide (x.kind≠3)).map fun x=>x.id
def qca (r:RunV) (b:List qr):RunV:=⟨(doF r.l b).2.1,r.given++[(doF r.l b).2.2],r.touched++qcx b⟩
def vu:List (List qr)→RunV→ErrV×RunV
 | [],r=>(.no,r)
 |b::q,r=>if (doF r.l b).1 = .no then vu q (qca r b) else (.at' r.given.length 10,r)
def vn (base:qa) (bs:List (List qr)):ErrV×RunV:=if z8 base = .no then vu bs ⟨ofF (itsE base),[],[]⟩ else (z8 base,⟨ofF [],[],[]⟩)
@[reducible] def q1y (g : List (List Int)) : AV := .sl 1 (g.map yf) none
@[reducible] def runA (r : RunV) : AV := .pp [vm r.l, q1y r.given, yf r.touched]
def q8t (r:ErrV×RunV):AV:=match r.1 with
 | .no=>.tu [runA r.2,errA .no]
 |e=>.tu [.v (.pointer none),errA e]
theorem qrg (g:List (List Int)):Pure (q1y g):=qbq fun x hx=>by
 obtain⟨f,_,rfl⟩:=List.mem_map.1 hx;intro y hy;simp only [AV.cells,List.mem_cons,List.not_mem_nil,or_false] at hy;rw [hy];exact qa2 f
theorem q8u (r:ErrV×RunV):Pure (q8t r):=by
 unfold q8t;split
 ·exact jg (qwu fun x hx=>by
   simp only [List.mem_cons,List.not_mem_nil,or_false] at hx;rcases hx with rfl|rfl|rfl
   ·exact qi7 _
   ·exact qrg _
   ·exact qa2 _) (km _)
 ·exact jg (qq _) (km _)
theorem qf1 {n m:Nat} {l:qz} (h:LB n l) (hm:n≤m) (hs:m<900000):LB m l:=by
 have h1:=h.len;have h2:=h.nx0;have h3:=h.nx1;have h4:=h.mn0;have h5:=h.mn1;exact⟨hs,by omega,h2,by omega,by omega,by omega⟩
theorem qx0:∀ (b:List qr) (k n:Nat) (l:qz) (ids:List Int),LB n l→n+b.length<900000→LB (n+b.length) (xj k b l ids).2.1
 | [],k,n,l,ids,h,_=>h
 |x::r,k,n,l,ids,h,hs=>by
  simp only [List.length_cons] at hs ⊢;unfold xj;split
  ·have:=qx0 r (k+1) (n+1) (oneF l x).2.2 (if 0<(oneF l x).1 then ids++[(oneF l x).1] else ids) (qqm h (by omega) x) (by omega)
   rw [show n+(r.length+1)=n+1+r.length by omega];exact this
  ·have h1:=h.len;have h2:=h.nx0;have h3:=h.nx1;have h4:=h.mn0;have h5:=h.mn1
   exact⟨by omega,by simp only;omega,h2,by simp only;omega,by simp only;omega,by simp only;omega⟩
theorem q1c {n:Nat} {l:qz} (h:LB n l) (hs:n+40<900000) (b:List qr):LB (n+40) (doF l b).2.1:=by
 unfold doF;split
 ·rename_i he
  obtain⟨h1,h2,_⟩:=qdk he;exact qf1 (qx0 b 0 n l [] h (by omega)) (by omega) hs
 ·exact qf1 h (by omega) hs
theorem zbd:∀ (its:List ze) (n:Nat) (l:qz),LB n l→n+its.length<900000→LB (n+its.length) (its.foldl xl l)
 | [],n,l,h,_=>h
 |x::r,n,l,h,hs=>by
  simp only [List.length_cons] at hs ⊢;rw [List.foldl_cons,show n+(r.length+1)=n+1+r.length by omega];refine zbd r (n+1) _ ?_ (by omega);have h1:=h.len;have h2:=h.nx0;have h3:=h.nx1;have h4:=h.mn0;have h5:=h.mn1;unfold xl;split
  ·exact⟨by omega,by simp;omega,by simp only;omega,by simp only;omega,by simp only;omega,by simp only;omega⟩
  ·exact⟨by omega,by simp;omega,h2,by simp only;omega,by simp only;omega,by simp only;omega⟩
theorem qpn (text:qa):LB 300000 (ofF (itsE text)):=by
 have h:=qso text;have:=zbd (itsE text) 0 ⟨[],1,0⟩ ⟨by omega,by simp,by simp,by simp,by simp,by simp⟩ (by omega);exact qf1 this (by omega) (by omega)
@[reducible] def runH (a : Nat) (r : RunV) : List (Nat × Option SR) := [(0, some (.cells 165 [.a (vm r.l), .tp a, .tp (a + 1)])), (a, some (.tip 1 32 (r.given.map yf))), (a + 1, some (.tip 1 3 (r.touched.map fun x => Iv x)))]
def BB (b:List qr):Prop:=b.length<1000000∧∀ x∈b,EdB x
theorem zim (n:Nat) (r:RunV) (b:List qr) (hB:LB n r.l) (hn:n+40<900000) (hg:r.given.length<1000000) (ht:r.touched.length<100000000) (hb:BB b) (hok:(doF r.l b).1 = .no):v4 E 134 [.bx 0 0,.a (jo b)] 3 (hpF (runH 1 r)) ⟨.a (.v .nilIface),wb (runH 1 r),runH 3 (qca r b)++ww (runH 1 r),5⟩:=by
 refine yj [.bx 0 0,.a (jo b)] (runH 1 r) 3 (.a (.v .nilIface)) (runH 3 (qca r b)) 5 Tryz.func134 rfl rfl rfl rfl fun S F ρ=>?_;have px:=fun st=>zgd n r.l b st hB hn hb.2 hb.1;unfold qca;generalize doF r.l b=d at px hok;obtain⟨e,l',ids⟩:=d;simp only at hok;subst hok;have hgl:(r.given.map yf).length=r.given.length:=by simp
 have bn:=hb.1;apply qd [];repeat' (first|apply And.intro|(intro h;try exact cDd)|exact⟨Tryz.call46⟩|refine cpe px ?_|exact cSd|apply qb []|refine exr ?_|refine qe ?_)
 refine zw (X:=Nat) (fun k=>⟨[(0,.bx 0 0),(45,.a (jo b)),(46,.i b.length),(47,.i k)],[(0,some (.cells 165 [.a (vm l'),.tp 3,.tp 4])),(3,some (.tip 1 32 ((r.given++[ids]).map yf))),(4,some (.tip 1 3 ((r.touched++qcx (b.take k)).map fun x=>Iv x)))],5⟩)
  (fun k=>k≤b.length) (fun k=>b.length - k) 0 (by omega) ?_ ?_
 ·skip
  repeat' (first|apply And.intro|(intro h;try exact cDd)|exact cSd|apply qb []|refine exr ?_|refine qe ?_)
  all_goals (simp [qcx];done)
 ·rintro k hk
  by_cases b8:k<b.length
  ·have hx:b[k]? = some b[k]:=List.getElem?_eq_getElem b8
   have c8:(b.map ji)[k]? = some (ji b[k]):=by rw [List.getElem?_map,hx];rfl
   have d2:b.take (k+1)=b.take k++[b[k]]:=by rw [List.take_add_one,hx];rfl
   have mz:(qcx (b.take k)).length≤k:=by
    unfold qcx;rw [List.length_map];exact Nat.le_trans (List.length_filter_le _ _) (by simp;omega)
   generalize b[k]=x at hx c8 d2;by_cases h3:x.kind=3
   ·have e:qcx (b.take (k+1))=qcx (b.take k):=by rw [d2];simp [qcx,h3]
    apply qd [];repeat' (first|apply And.intro|(intro h;try exact cDd)|(refine Exists.intro (k) ⟨by omega,_,c8,?_⟩)|(refine Exists.intro (k+1) ⟨by omega,by omega,?_⟩)|exact cSd|apply qb []|refine exr ?_|refine qe ?_)
    all_goals (rw [e];done)
   ·have e:qcx (b.take (k+1))=qcx (b.take k)++[x.id]:=by rw [d2];simp [qcx,h3]
    apply qd [];repeat' (first|apply And.intro|(intro h;try exact cDd)|(refine Exists.intro (k) ⟨by omega,_,c8,?_⟩)|(refine Exists.intro (k+1) ⟨by omega,by omega,?_⟩)|exact cSd|apply qb []|refine exr ?_|refine qe ?_)
    all_goals first|(rw [e];simp;done)|(simp;omega)
  ·have b8:k=b.length:=by omega
   subst b8;rw [List.take_length];apply qd [];repeat' (first|apply And.intro|(intro h;try exact cDd)|exact cSd|apply qb []|refine exr ?_|refine qe ?_)
theorem zft (n:Nat) (r:RunV) (b:List qr) (hB:LB n r.l) (hn:n+40<900000) (hg:r.given.length<1000000) (hb:BB b) (hok:(doF r.l b).1≠.no):v4 E 134 [.bx 0 0,.a (jo b)] 3 (hpF (runH 1 r)) ⟨.a (errA (.at' r.given.length 10)),wb (runH 1 r),runH 3 r++ww (runH 1 r),5⟩:=by
 refine yj [.bx 0 0,.a (jo b)] (runH 1 r) 3 (.a (errA (.at' r.given.length 10))) (runH 3 r) 5 Tryz.func134 rfl rfl rfl rfl fun S F ρ=>?_;have px:=fun st=>zgd n r.l b st hB hn hb.2 hb.1;have hgl:(r.given.map yf).length=r.given.length:=by simp
 generalize doF r.l b=d at px hok;obtain⟨e,l',ids⟩:=d;simp only at hok
 cases e with
 |no=>exact absurd rfl hok
 |num m=>
  apply qd [];repeat' (first|apply And.intro|(intro h;try exact cDd)|exact⟨Tryz.call46⟩|refine cpe px ?_|exact cSd|apply qb []|refine exr ?_|refine qe ?_)
  all_goals (rw [hgl];rfl)
 |at' a m=>
  apply qd [];repeat' (first|apply And.intro|(intro h;try exact cDd)|exact⟨Tryz.call46⟩|refine cpe px ?_|exact cSd|apply qb []|refine exr ?_|refine qe ?_)
  all_goals (rw [hgl];rfl)
theorem zil (base:qa) (bs:List (List qr)) (st:List AObj) (hl:base.length<1000000) (hn:bs.length≤14000) (hb:∀ b∈bs,BB b∧b.length≤5000):qo E 76 [Sv base,qfk bs] st fun r st'=>r=q8t (vn base bs)∧st'=st:=by
 refine qnl [.s base,.a (qfk bs)] (q8u _) Tryz.func76 rfl rfl (fun _=>rfl) rfl fun S0=>?_;have bc:=fun st=>zep base st hl;have mq:=qpn base;unfold vn;generalize itsE base=its at bc mq
 cases he:z8 base with
 |num m=>
  rw [he] at bc;rw [if_neg (by simp)];apply qd [22]
  repeat' (first|apply And.intro|(intro h;try exact cDd)|exact⟨Tryz.call35⟩|refine cpe bc ?_|exact cSd|apply qb [22]|refine exr ?_|refine qe ?_)
 |at' a m=>
  rw [he] at bc;rw [if_neg (by simp)];apply qd [22]
  repeat' (first|apply And.intro|(intro h;try exact cDd)|exact⟨Tryz.call35⟩|refine cpe bc ?_|exact cSd|apply qb [22]|refine exr ?_|refine qe ?_)
 |no=>
  rw [he] at bc;rw [if_pos rfl];apply qd [22];repeat' (first|apply And.intro|(intro h;try exact cDd)|exact⟨Tryz.call35⟩|refine cpe bc ?_|exact cSd|apply qb [22]|refine exr ?_|refine qe ?_)
  refine zw (X:=Nat×RunV) (fun (k,r)=>⟨[(8,.bx 0 0),(23,.a (qfk bs)),(24,.i bs.length),(25,.i k)],[(0,some (.cells 165 [.a (vm r.l),.tp 1,.tp 2])),(1,some (.tip 1 32 (r.given.map yf))),(2,some (.tip 1 3 (r.touched.map fun x=>Iv x)))],3⟩)
   (fun (k,r)=>k≤bs.length∧LB (300000+40 * k) r.l∧r.given.length=k∧r.touched.length≤5000 * k∧vu (bs.drop k) r=vu bs ⟨ofF its,[],[]⟩) (fun (k,r)=>bs.length - k) (0,⟨ofF its,[],[]⟩) ⟨by omega,mq,rfl,by simp,rfl⟩ ?_ ?_
  ·skip
   repeat' (first|apply And.intro|(intro h;try exact cDd)|exact cSd|apply qb []|refine exr ?_|refine qe ?_)
   all_goals (simp;done)
  ·rintro⟨k,r⟩ ⟨hk,hq,hgl,mz,a4⟩
   by_cases b8:k<bs.length
   ·have hx:bs[k]? = some bs[k]:=List.getElem?_eq_getElem b8
    have c8:(bs.map jo)[k]? = some (jo bs[k]):=by rw [List.getElem?_map,hx];rfl
    obtain⟨pr,hb5⟩:=hb bs[k] (List.getElem_mem b8);rw [List.drop_eq_getElem_cons b8,vu] at a4;generalize bs[k]=b at hx c8 pr hb5 a4;have hlb2:=q1c hq (by omega) b;by_cases hok:(doF r.l b).1 = .no
    ·rw [if_pos hok] at a4
     have d2:=zim (300000+40 * k) r b hq (by omega) (by omega) (by omega) pr hok;have hgl2:(qca r b).given.length=k+1:=by simp [qca,hgl]
     have htl2:(qca r b).touched.length≤5000 * (k+1):=by
      have:(qcx b).length≤b.length:=by
       unfold qcx;rw [List.length_map];exact List.length_filter_le _ _
      simp only [qca,List.length_append];omega
     have hlb3:LB (300000+40 * (k+1)) (qca r b).l:=qf1 hlb2 (by omega) (by omega);generalize qca r b=r2 at d2 a4 hgl2 htl2 hlb3;apply qd [];repeat' (first|apply And.intro|(intro h;try exact cDd)|(refine Exists.intro (k) ⟨by omega,_,c8,?_⟩)|exact⟨Tryz.call134⟩|(refine j6 d2 ?_)|(refine Exists.intro (k+1,r2) ⟨⟨by omega,hlb3,hgl2,htl2,a4⟩,by simp only;omega,?_⟩)|exact cSd|apply qb []|refine exr ?_|refine qe ?_)
    ·rw [if_neg hok] at a4
     rw [← a4];have d2:=zft (300000+40 * k) r b hq (by omega) (by omega) pr hok;apply qd [];repeat' (first|apply And.intro|(intro h;try exact cDd)|(refine Exists.intro (k) ⟨by omega,_,c8,?_⟩)|exact⟨Tryz.call134⟩|(refine j6 d2 ?_)|exact cSd|apply qb []|refine exr ?_|refine qe ?_)
   ·have b8:k=bs.length:=by omega
    subst b8;rw [List.drop_length,vu] at a4;rw [← a4];apply qd [];repeat' (first|apply And.intro|(intro h;try exact cDd)|exact cSd|apply qb []|refine exr ?_|refine qe ?_)
structure BkB (b:vz):Prop where
 base:b.base.length<1000000
 len:b.batches.length≤14000
 bat:∀ x∈b.batches,BB x∧x.length≤5000
theorem zbz (b:List qr):9≤(recE b).length:=by
 unfold recE recF qhr;simp [zb];omega
theorem qvd:∀ r:List (List qr),9 * r.length≤(yh r).length
 | []=>by simp [yh]
 |b::r=>by
  have h1:=qvd r;have h2:=zbz b;rw [qet];simp only [List.length_append,List.length_cons];omega
theorem qms {text:qa} {b:vz} (h:qbk text b):BkB b:=by
 have h1:=congrArg List.length h.split;have h2:=h.len;have h3:=qvd b.batches;simp only [List.length_append,qac] at h1;refine⟨by omega,by omega,fun x hx=>?_⟩;obtain⟨g1,g2,_⟩:=qdk (h.good x hx).ok;exact⟨⟨by omega,(h.good x hx).B⟩,by omega⟩
def qg3 (b:vz) (n:Int):ErrV×RunV:=if n<0∨(b.batches.length:Int)<n then (.num 1,⟨ofF [],[],[]⟩) else vn b.base (b.batches.take n.toNat)
theorem qyw (b:vz) (n:Int) (st:List AObj) (hB:BkB b):qo E 30 [qbx b,Iv n] st fun r st'=>r=qur (qg3 b n).1 (qg3 b n).2.l∧st'=st:=by
 refine zg [.a (qbx b),.i n] (qls _ _) Tryz.func30 rfl rfl (fun _=>rfl) rfl fun S0=>?_;have bn:=hB.len;have e8:(b.batches.map jo).length=b.batches.length:=by simp
 unfold qg3;by_cases hn:n<0∨(b.batches.length:Int)<n
 ·rw [if_pos hn]
  apply qd [];repeat' (first|apply And.intro|(intro h;try exact cDd)|exact cSd|apply qb []|refine exr ?_|refine qe ?_)
 ·rw [if_neg hn]
  obtain⟨k,rfl⟩:∃ k:Nat,n=(k:Int):=⟨n.toNat,by omega⟩;rw [Int.toNat_natCast];have hp:=fun st=>zil b.base (b.batches.take k) st hB.base (by simp;omega) (fun x hx=>hB.bat x (List.mem_of_mem_take hx));unfold qfk at hp;rw [List.map_take] at hp;generalize vn b.base (b.batches.take k)=p at hp;obtain⟨e,r⟩:=p
  cases e with
  |no=>
   apply qd []
   repeat' (first|apply And.intro|(intro h;try exact cDd)|exact⟨Tryz.call76⟩|refine cpe hp ?_|exact cSd|apply qb []|refine exr ?_|refine qe ?_)
  |num m=>
   apply qd []
   repeat' (first|apply And.intro|(intro h;try exact cDd)|exact⟨Tryz.call76⟩|refine cpe hp ?_|exact cSd|apply qb []|refine exr ?_|refine qe ?_)
  |at' a m=>
   apply qd [];repeat' (first|apply And.intro|(intro h;try exact cDd)|exact⟨Tryz.call76⟩|refine cpe hp ?_|exact cSd|apply qb []|refine exr ?_|refine qe ?_)
theorem zks (b:vz) (st:List AObj) (hB:BkB b):qo E 64 [qbx b] st fun r st'=>r=qur (vn b.base b.batches).1 (vn b.base b.batches).2.l∧st'=st:=by
 refine zg [.a (qbx b)] (qls _ _) Tryz.func64 rfl rfl (fun _=>rfl) rfl fun S0=>?_;have e8:(b.batches.map jo).length=b.batches.length:=by simp
 have e:qg3 b (((b.batches.map jo).length:Nat):Int)=vn b.base b.batches:=by
  unfold qg3;rw [e8,if_neg (by omega),Int.toNat_natCast,List.take_length]
 have hp:=fun st=>qyw b (((b.batches.map jo).length:Nat):Int) st hB;rw [e] at hp;generalize vn b.base b.batches=p at hp;obtain⟨er,r⟩:=p
 cases er with
 |no=>
  apply qd []
  repeat' (first|apply And.intro|(intro h;try exact cDd)|exact⟨Tryz.call30⟩|refine cpe hp ?_|exact cSd|apply qb []|refine exr ?_|refine qe ?_)
 |num m=>
  apply qd []
  repeat' (first|apply And.intro|(intro h;try exact cDd)|exact⟨Tryz.call30⟩|refine cpe hp ?_|exact cSd|apply qb []|refine exr ?_|refine qe ?_)
 |at' a m=>
  apply qd [];repeat' (first|apply And.intro|(intro h;try exact cDd)|exact⟨Tryz.call30⟩|refine cpe hp ?_|exact cSd|apply qb []|refine exr ?_|refine qe ?_)
def zy (text:qa):ErrV×vz×qz:=if (jq text).1 = .no then (if (vn (jq text).2.base (jq text).2.batches).1 = .no then (.no,(jq text).2,(vn (jq text).2.base (jq text).2.batches).2.l) else ((vn (jq text).2.base (jq text).2.batches).1,qaj,ofF [])) else ((jq text).1,qaj,ofF [])
def qpx (r:ErrV×vz×qz):AV:=match r.1 with
 | .no=>.tu [qbx r.2.1,vm r.2.2,errA .no]
 |e=>.tu [qbx r.2.1,.v (.pointer none),errA e]
theorem q5j (r:ErrV×vz×qz):Pure (qpx r):=by
 unfold qpx;split
 ·exact yy (qgm _) (qi7 _) (km _)
 ·exact yy (qgm _) (qq _) (km _)
theorem q6y (text:qa) (st:List AObj) (hl:text.length<1000000):qo E 21 [Sv text] st fun r st'=>r=qpx (zy text)∧st'=st:=by
 refine zg [.s text] (q5j _) Tryz.func21 rfl rfl (fun _=>rfl) rfl fun S0=>?_;have m9:=fun st=>q5z text st hl;have lz:(jq text).1 = .no→BkB (jq text).2:=fun h=>qms (qjs (text:=text) (b:=(jq text).2) (by rw [← h]));unfold zy;generalize jq text=q at m9 lz;obtain⟨e,b⟩:=q
 cases e with
 |num m=>
  rw [if_neg (by simp)];apply qd []
  repeat' (first|apply And.intro|(intro h;try exact cDd)|exact⟨Tryz.call22⟩|refine cpe m9 ?_|exact cSd|apply qb []|refine exr ?_|refine qe ?_)
 |at' a m=>
  rw [if_neg (by simp)];apply qd []
  repeat' (first|apply And.intro|(intro h;try exact cDd)|exact⟨Tryz.call22⟩|refine cpe m9 ?_|exact cSd|apply qb []|refine exr ?_|refine qe ?_)
 |no=>
  rw [if_pos rfl];have bc:=fun st=>zks b st (lz rfl);dsimp only;generalize vn b.base b.batches=p at bc;obtain⟨e,r⟩:=p
  cases e with
  |no=>
   rw [if_pos rfl];apply qd []
   repeat' (first|apply And.intro|(intro h;try exact cDd)|exact⟨Tryz.call22⟩|refine cpe m9 ?_|exact⟨Tryz.call64⟩|refine cpe bc ?_|exact cSd|apply qb []|refine exr ?_|refine qe ?_)
  |num m=>
   rw [if_neg (by simp)];apply qd []
   repeat' (first|apply And.intro|(intro h;try exact cDd)|exact⟨Tryz.call22⟩|refine cpe m9 ?_|exact⟨Tryz.call64⟩|refine cpe bc ?_|exact cSd|apply qb []|refine exr ?_|refine qe ?_)
  |at' a m=>
   rw [if_neg (by simp)];apply qd [];repeat' (first|apply And.intro|(intro h;try exact cDd)|exact⟨Tryz.call22⟩|refine cpe m9 ?_|exact⟨Tryz.call64⟩|refine cpe bc ?_|exact cSd|apply qb []|refine exr ?_|refine qe ?_)
end Go.Proofs.YtneejjefekdgjaaGreatDoor
namespace Go.Pl
open Go Go.Proofs Go.Proofs.YtneejjefekdgjaaGreatDoor
def trL (ls:List qa):List (qa×Bool):=ls.map fun s=>(s,true)
def now0:ze:=⟨2,[],[]⟩
def blkR:Bool→ze→List qa→Option ze
 | _,now,[]=>some now
 |prev,now,t::r=>
  if kh prev t true (trL r) now.fields.length 0≠0∨qv t=1 then none
  else if qv t=4 then blkR true ⟨3,now.raw++t++[10],now.fields++[(zr (t::kw (trL r))).1]⟩ r
  else blkR (decide (qv t=3)) ⟨now.kind,now.raw++t++[10],now.fields⟩ r
def qzz:List (qa×Bool)→Prop
 | []=>True
 |(t,_)::_=>qv t=1
theorem qk8:∀ (ls:List qa) (rest:List (qa×Bool)),qzz rest→kw (trL ls++rest)=kw (trL ls)
 | [],[],_=>rfl
 | [],(t,e)::r,h=>by
  have h:qv t=1:=h
  show (if qv t=3 then _ else _)=_
  rw [if_neg (by omega)]
  rfl
 |t::r,rest,h=>by
  show (if qv t=3 then t::kw (trL r++rest) else [])=(if qv t=3 then t::kw (trL r) else [])
  rw [qk8 r rest h]
theorem qny (prev:Bool) (t:qa) (ls:List qa) (rest:List (qa×Bool)) (n:Nat) (rec:Int) (h:qzz rest):kh prev t true (trL ls++rest) n rec=kh prev t true (trL ls) n rec:=by
 unfold kh;rw [qk8 ls rest h]
theorem zdb {prev:Bool} {t:qa} {L:List (qa×Bool)} {n:Nat} {rec:Int} (h:kh prev t true L n 0=0) (hr:qv t=4→n=0→rec<400):kh prev t true L n rec=0:=by
 unfold kh at h ⊢;split
 ·rename_i h1;rw [if_pos h1] at h;exact h
 ·rename_i h1
  rw [if_neg h1] at h;split
  ·rfl
  ·rename_i h4
   rw [if_neg h4] at h;split
   ·rename_i hu;rw [if_pos hu] at h;exact h
   ·rename_i hu
    rw [if_neg hu] at h;have h4:=Classical.not_not.1 h4;rw [if_neg];intro hh;rcases hh with hh|hh
    ·rw [if_pos (.inl hh)] at h;omega
    ·have:=hr h4 hh.1;omega
theorem qv1 {prev:Bool} {t:qa} {e:Bool} {L:List (qa×Bool)} {n:Nat} {rec:Int} (h:kh prev t e L n rec=0):kh prev t e L n 0=0:=by
 unfold kh at h ⊢;split
 ·rename_i h1;rw [if_pos h1] at h;exact h
 ·rename_i h1
  rw [if_neg h1] at h;split
  ·rfl
  ·rename_i h4
   rw [if_neg h4] at h;split
   ·rename_i hu;rw [if_pos hu] at h;exact h
   ·rename_i hu
    rw [if_neg hu] at h;rw [if_neg];intro hh;rcases hh with hh|hh
    ·rw [if_pos (.inl hh)] at h;omega
    ·omega
theorem zda {prev:Bool} {t:qa} {e:Bool} {L:List (qa×Bool)} {n:Nat} {rec:Int} (h:kh prev t e L n rec=0):e=true∧10∉t:=by
 unfold kh at h;split at h
 ·omega
 ·rename_i h1
  refine⟨by cases e with|true=>rfl|false=>exact absurd (.inr (.inr rfl)) h1,fun b9=>h1 (.inl ?_)⟩;unfold qv;rw [if_pos b9]
theorem qrz {prev:Bool} {t:qa} {L:List (qa×Bool)} {n:Nat} {rec:Int} (h:qv t=1):kh prev t true L n rec=0:=by
 unfold kh;rw [if_neg (by simp [h]),if_pos (by omega)]
theorem qks:∀ (ls:List qa) (prev:Bool) (now x:ze),blkR prev now ls=some x→now.kind=3→x.kind=3
 | [],_,now,x,h,hk=>by cases h;exact hk
 |t::r,prev,now,x,h,hk=>by
  rw [blkR] at h;split at h
  ·cases h
  ·split at h
   ·exact qks r _ _ _ h rfl
   ·exact qks r _ _ _ h hk
theorem qqd:∀ (ls:List qa) (prev:Bool) (now x:ze),blkR prev now ls=some x→x.raw=now.raw++zi ls
 | [],_,now,x,h=>by cases h;simp [zi]
 |t::r,prev,now,x,h=>by
  rw [blkR] at h;split at h
  ·cases h
  ·split at h
   ·rw [qqd r _ _ _ h,xx];simp
   ·rw [qqd r _ _ _ h,xx];simp
def qoe (x:ze):Prop:=x.kind=3∧x.fields≠[]∨x.kind=2∧x.fields=[]
theorem qly:∀ (ls:List qa) (k:Nat) (prev:Bool) (now x:ze) (rec:Int) (out:List ze) (rest:List (qa×Bool)),qzz rest→blkR prev now ls=some x→qoe now→(now.kind=2→x.kind=3→rec<400) →
  (∃ prev',refL k (trL ls++rest) prev now rec out=refL (k+ls.length) rest prev' x (if now.kind=2∧x.kind=3 then rec+1 else rec) out)∧qoe x
 | [],k,prev,now,x,rec,out,rest,hs,h,hk,hr=>by
  cases h
  refine⟨⟨prev,?_⟩,hk⟩;rw [if_neg (by omega)]
  rfl
 |t::r,k,prev,now,x,rec,out,rest,hs,h,hk,hr=>by
  rw [blkR] at h;split at h
  ·cases h
  ·rename_i hc
   simp only [not_or,Classical.not_not] at hc
   have hrec:qv t=4→now.fields.length=0→rec<400:=fun h4 h0=>by
    rw [if_pos h4] at h;rcases hk with hk|hk
    ·exact absurd (List.length_eq_zero_iff.1 h0) hk.2
    ·exact hr hk.1 (qks r _ _ _ h rfl)
   have hw:kh prev t true (trL r++rest) now.fields.length rec=0:=by
    rw [qny _ _ _ _ _ _ hs];exact zdb hc.1 hrec
   have b7:trL (t::r)++rest=(t,true)::(trL r++rest):=rfl;rw [b7,refL,if_neg (by simp [hw]),if_neg hc.2];split at h
   ·rename_i h4
    rw [if_pos h4,qk8 r rest hs];have hx3:=qks r _ _ _ h rfl;obtain⟨⟨p',e⟩,hkx⟩:=qly r (k+1) _ _ x (if now.kind=2 then rec+1 else rec) out rest hs h (.inl ⟨rfl,by simp⟩) (by simp);refine⟨⟨p',?_⟩,hkx⟩;rw [e,if_neg (by simp)];simp only [hx3,and_true,List.length_cons];congr 1;omega
   ·rename_i h4
    rw [if_neg h4];obtain⟨⟨p',e⟩,hkx⟩:=qly r (k+1) _ _ x rec out rest hs h hk hr;refine⟨⟨p',?_⟩,hkx⟩;rw [e,List.length_cons];congr 1;omega
theorem qwz:∀ (L:List (qa×Bool)) (k:Nat) (prev:Bool) (now:ze) (rec:Int) (out its:List ze),refL k L prev now rec out=(none,its) →
  ∃ (ls:List qa) (rest:List (qa×Bool)) (prev':Bool) (x:ze) (rec':Int) (k':Nat),L=trL ls++rest∧qzz rest∧blkR prev now ls=some x∧refL k' rest prev' x rec' out=(none,its)∧∀ t∈ls,10∉t
 | [],k,prev,now,rec,out,its,h=>⟨[],[],prev,now,rec,k,rfl,trivial,rfl,h,by simp⟩
 |(t,e)::r,k,prev,now,rec,out,its,h=>by
  have h0:=h;rw [refL] at h;split at h
  ·simp at h
  ·rename_i hw
   have hw:=Classical.not_not.1 hw;obtain⟨rfl,b9⟩:=zda hw;split at h
   ·rename_i h1
    exact⟨[],(t,true)::r,prev,now,rec,k,rfl,h1,rfl,h0,by simp⟩
   ·rename_i h1
    split at h
    ·rename_i h4
     obtain⟨ls,rest,p',x,rc,k',rfl,hs,hb,hr,gk⟩:=qwz r _ _ _ _ _ _ h;rw [qk8 ls rest hs] at hb;rw [qny _ _ _ _ _ _ hs] at hw;refine⟨t::ls,rest,p',x,rc,k',rfl,hs,?_,hr,by simpa using ⟨b9,gk⟩⟩;rw [blkR,if_neg (by simp [qv1 hw,h1]),if_pos h4];exact hb
    ·rename_i h4
     obtain⟨ls,rest,p',x,rc,k',rfl,hs,hb,hr,gk⟩:=qwz r _ _ _ _ _ _ h;rw [qny _ _ _ _ _ _ hs] at hw;refine⟨t::ls,rest,p',x,rc,k',rfl,hs,?_,hr,by simpa using ⟨b9,gk⟩⟩;rw [blkR,if_neg (by simp [qv1 hw,h1]),if_neg h4];exact hb
def qaz (x:ze):Prop:=(∃ t,x=⟨1,t++[10],[]⟩∧qv t=1)∨∃ ls,ls≠[]∧blkR false now0 ls=some x∧∀ t∈ls,10∉t
theorem qyo (out:List ze):outR now0 out=out:=rfl
theorem qyj {t:qa} (h:qv t=1):10∉t:=fun b9=>by
 unfold qv at h;rw [if_pos b9] at h;omega
theorem zce:∀ (n:Nat) (L:List (qa×Bool)) (k:Nat) (rec:Int) (out its:List ze),L.length≤n→refL k L false now0 rec out=(none,its)→(∀ x∈out,qaz x)→∀ x∈its,qaz x:=by
 intro n
 induction n with
 |zero=>
  intro L k rec out its hn h ho;have:L=[]:=List.length_eq_zero_iff.1 (by omega);subst this;have h:(none,outR now0 out)=(none,its):=h;simp only [Prod.mk.injEq,true_and] at h;subst h
  exact ho
 |succ n ih=>
  intro L k rec out its hn h ho;obtain⟨ls,rest,p',x,rc,k',rfl,hs,hb,hr,gk⟩:=qwz L _ _ _ _ _ _ h
  have hout:∀ y∈outR x out,qaz y:=fun y hy=>by
   unfold outR at hy;split at hy
   ·exact ho y hy
   ·rename_i hx
    rcases List.mem_append.1 hy with hy|hy
    ·exact ho y hy
    ·simp only [List.mem_cons,List.not_mem_nil,or_false] at hy
     subst hy;refine .inr ⟨ls,fun e=>hx ?_,hb,gk⟩;subst e
     cases hb
     rfl
  cases rest with
  |nil=>
   have hr:(none,outR x out)=(none,its):=hr;simp only [Prod.mk.injEq,true_and] at hr;subst hr
   exact hout
  |cons y r=>
   obtain⟨t,e⟩:=y;have h1:qv t=1:=hs;rw [refL] at hr;split at hr
   ·simp at hr
   ·try rw [if_pos h1] at hr
    refine ih r _ _ _ _ (by simp at hn;omega) hr fun y hy=>?_;rcases List.mem_append.1 hy with hy|hy
    ·exact hout y hy
    ·simp only [List.mem_cons,List.not_mem_nil,or_false] at hy
     subst hy;exact .inl ⟨t,rfl,h1⟩
theorem qpr {text:qa} (h:(ja text).1=none):∀ x∈(ja text).2,qaz x:=by
 refine zce _ (zn text) 0 0 [] _ (Nat.le_refl _) ((qdp text).trans (Prod.ext h rfl)) (by simp)
theorem q4p {fs:List Fld} (hg:GF fs) (a6:fs≠[]):qaz ⟨3,zu fs,fs⟩:=by
 have h:=qu2 hg a6;exact qpr (by rw [h]) _ (by rw [h];simp)
def SepI:List ze→Prop
 | []=>True
 | [_]=>True
 |x::y::r=>(x.kind≠1→y.kind=1)∧SepI (y::r)
def cntI (its:List ze):Nat:=its.countP fun x=>x.kind=3
theorem qpf:∀ (ls:List qa) (R:qa),(∀ s∈ls,10∉s)→zn (zi ls++R)=trL ls++zn R
 | [],R,_=>rfl
 |s::r,R,h=>by
  have hs:=h s (by simp);have e:zi (s::r)++R=s++10::(zi r++R):=by rw [xx];simp
  rw [e,wq (by simp),vv _ hs,xv _ hs,qpf r R fun x hx=>h x (by simp [hx])];simp [trL]
theorem qrn {t:qa} {R:qa} (h:10∉t):zn (t++[10]++R)=(t,true)::zn R:=by
 have:=qpf [t] R (by simpa using h)
 simpa [zi,trL] using this
theorem qrj {x:ze} (h:qaz x):x.kind=1∧(∃ t,x=⟨1,t++[10],[]⟩∧qv t=1)∨qoe x∧x.raw≠[]∧∃ ls,ls≠[]∧blkR false now0 ls=some x∧∀ t∈ls,10∉t:=by
 rcases h with⟨t,rfl,ht⟩ | ⟨ls,a6,hb,gk⟩
 ·exact .inl ⟨rfl,t,rfl,ht⟩
 ·refine .inr ⟨(qly ls 0 false now0 x 0 [] [] trivial hb (.inr ⟨rfl,rfl⟩) (by omega)).2,?_,ls,a6,hb,gk⟩
  rw [qqd _ _ _ _ hb]
  cases ls with
  |nil=>exact absurd rfl a6
  |cons t r=>simp [zi,now0]
theorem qng:∀ (its:List ze) (k:Nat) (rec:Int) (out:List ze),(∀ x∈its,qaz x)→SepI its→rec+cntI its≤400→refL k (zn (ko its)) false now0 rec out=(none,out++its)
 | [],k,rec,out,_,_,_=>by
  have:ko []=[]:=rfl;rw [this,vi]
  simp [refL,qyo]
 |x::r,k,rec,out,hok,rl,hc=>by
  have hraw:ko (x::r)=x.raw++ko r:=rfl;rw [hraw];rcases qrj (hok x (by simp)) with⟨p1,t,rfl,ht⟩ | ⟨hkx,hrx,ls,a6,hb,gk⟩
  ·rw [qrn (qyj ht),refL,if_neg (by rw [qrz ht];simp),if_pos ht,qyo]
   have hs:SepI r:=by cases r with|nil=>trivial|cons y q=>exact rl.2
   have:=qng r (k+1) rec (out++[⟨1,t++[10],[]⟩]) (fun y hy=>hok y (by simp [hy])) hs (by simpa [cntI] using hc);rw [show (⟨2,[],[]⟩:ze)=now0 from rfl,this];simp
  ·have rn:x.kind≠1:=by rcases hkx with h|h <;> omega
   have hc3:x.kind=3→rec<400:=fun h=>by simp [cntI,h] at hc;omega
   have rj:x.raw=zi ls:=by rw [qqd _ _ _ _ hb];rfl
   rw [rj,qpf ls _ gk]
   match r,hok,rl,hc with
   | [],hok,rl,hc=>
    have:ko []=[]:=rfl;rw [this,vi];obtain⟨⟨p',e⟩,_⟩:=qly ls k false now0 x rec out [] trivial hb (.inr ⟨rfl,rfl⟩) fun _ h=>hc3 h;rw [e,refL];unfold outR
    rw [if_neg hrx]
   |y::q,hok,rl,hc=>
    have hy1:=rl.1 rn;rcases qrj (hok y (by simp)) with⟨_,t,rfl,ht⟩ | ⟨ld,_⟩
    ·have hraw:ko (⟨1,t++[10],[]⟩::q)=(t++[10])++ko q:=rfl
     rw [hraw,qrn (qyj ht)];obtain⟨⟨p',e⟩,_⟩:=qly ls k false now0 x rec out ((t,true)::zn (ko q)) ht hb (.inr ⟨rfl,rfl⟩) fun _ h=>hc3 h;rw [e,refL,if_neg (by rw [qrz ht];simp),if_pos ht];have hs:SepI q:=by cases q with|nil=>trivial|cons z q'=>exact rl.2.2
     have ho:outR x out=out++[x]:=by unfold outR;rw [if_neg hrx]
     rw [ho,show (⟨2,[],[]⟩:ze)=now0 from rfl]
     have mc:(if now0.kind=2∧x.kind=3 then rec+1 else rec)+(cntI q:Int)≤400:=by
      simp only [cntI,List.countP_cons] at hc ⊢;by_cases h3:x.kind=3
      ·rw [if_pos ⟨rfl,h3⟩]
       simp [h3] at hc;omega
      ·rw [if_neg fun h=>h3 h.2]
       simp [h3] at hc;omega
     rw [qng q _ _ _ (fun y hy=>hok y (by simp [hy])) hs mc];simp
    ·exfalso
     rcases ld with h|h <;> omega
theorem qbf (a b:List ze):cntI (a++b)=cntI a+cntI b:=by simp [cntI]
theorem x3 (x:ze) (b:List ze):cntI (x::b)=(if x.kind=3 then 1 else 0)+cntI b:=by
 simp only [cntI,List.countP_cons,decide_eq_true_eq];omega
theorem qxk:∀ (its:List ze) (prev:Bool),SepI (kl prev its)∧(prev=true→∀ x,(kl prev its).head? = some x→x.kind=1)
 | [],prev=>⟨trivial,by simp [kl]⟩
 |x::r,prev=>by
  obtain⟨h1,h2⟩:=qxk r (decide (x.kind≠1))
  have key:SepI (x::kl (decide (x.kind≠1)) r):=by
   cases hq:kl (decide (x.kind≠1)) r with
   |nil=>trivial
   |cons y q=>
    rw [hq] at h1 h2;exact⟨fun hk=>h2 (by simpa using hk) y rfl,h1⟩
  rw [kl];by_cases hp:prev=true∧x.kind≠1
  ·rw [if_pos hp]
   exact⟨⟨fun h=>absurd rfl h,key⟩,fun _ y hy=>by simp at hy;subst hy;rfl⟩
  ·rw [if_neg hp]
   exact⟨key,fun hpr y hy=>by
    simp at hy;subst hy
    exact Classical.byContradiction fun h=>hp ⟨hpr,h⟩⟩
theorem q0t:∀ (its:List ze) (prev:Bool),(∀ x∈its,qaz x)→(∀ x∈kl prev its,qaz x)∧cntI (kl prev its)=cntI its
 | [],prev,_=>by simp [kl]
 |x::r,prev,h=>by
  obtain⟨h1,h2⟩:=q0t r (decide (x.kind≠1)) fun y hy=>h y (by simp [hy]);have hx:=h x (by simp);have bn:qaz ⟨1,[10],[]⟩:=.inl ⟨[],rfl,by decide⟩;rw [kl];split
  ·refine⟨fun y hy=>?_,by simp only [List.cons_append,List.nil_append,x3];rw [h2];try simp⟩
   simp only [List.cons_append,List.nil_append,List.mem_cons] at hy;rcases hy with rfl|rfl|hy
   ·exact bn
   ·exact hx
   ·exact h1 y hy
  ·refine⟨fun y hy=>?_,by simp only [List.cons_append,List.nil_append,x3];rw [h2];try simp⟩
   simp only [List.cons_append,List.nil_append,List.mem_cons] at hy;rcases hy with rfl|hy
   ·exact hx
   ·exact h1 y hy
theorem q2w {its:List ze} (h:∀ x∈its,qaz x) (hc:cntI its≤400):ja (ko (yt its))=(none,yt its):=by
 obtain⟨h1,h2⟩:=q0t its false h;have:=qng (yt its) 0 0 [] h1 (qxk its false).1 (by unfold yt;rw [h2];omega);rw [List.nil_append] at this;rw [← qdp];exact this
theorem q2s {now:ze} {out:List ze} (hk:qoe now) (hr:now.kind=3→now.raw≠[]):(cntI (outR now out):Int)=(cntI out:Int)+(if now.kind=3 then 1 else 0):=by
 have h0:cntI []=0:=rfl;unfold outR;by_cases he:now.raw=[]
 ·rw [if_pos he,if_neg fun h=>hr h he]
  omega
 ·rw [if_neg he,qbf,x3,h0]
  by_cases h3:now.kind=3
  ·rw [if_pos h3,if_pos h3];omega
  ·rw [if_neg h3,if_neg h3];omega
theorem qqq:∀ (L:List (qa×Bool)) (k:Nat) (prev:Bool) (now:ze) (rec:Int) (out its:List ze),refL k L prev now rec out=(none,its)→qoe now→(now.kind=3→now.raw≠[])→(cntI out:Int)+(if now.kind=3 then 1 else 0)=rec→rec≤400→cntI its≤400
 | [],k,prev,now,rec,out,its,h,hk,hr,hc,hm=>by
  have h:(none,outR now out)=(none,its):=h;simp only [Prod.mk.injEq,true_and] at h;subst h;have:=q2s (out:=out) hk hr
  omega
 |(t,e)::r,k,prev,now,rec,out,its,h,hk,hr,hc,hm=>by
  rw [refL] at h;split at h
  ·simp at h
  ·rename_i hw
   have hw:=Classical.not_not.1 hw;split at h
   ·refine qqq r _ _ _ _ _ _ h (.inr ⟨rfl,rfl⟩) (by simp) ?_ hm
    have:=q2s (out:=out) hk hr;rw [qbf,x3,show cntI []=0 from rfl,if_neg (by omega:¬ (1:Int)=3),if_neg (by omega:¬ (2:Int)=3)];omega
   ·split at h
    ·rename_i h4
     refine qqq r _ _ _ _ _ _ h (.inl ⟨rfl,by simp⟩) (by simp) ?_ ?_
     ·rcases hk with hk|hk
      ·rw [if_pos hk.1] at hc
       rw [if_pos rfl,if_neg (by omega)];exact hc
      ·rw [if_neg (by omega)] at hc
       rw [if_pos rfl,if_pos hk.1];omega
     ·rcases hk with hk|hk
      ·rw [if_neg (by omega)];exact hm
      ·rw [if_pos hk.1]
       unfold kh at hw;split at hw
       ·omega
       ·rw [if_neg (by omega)] at hw
        split at hw
        ·omega
        ·split at hw
         ·omega
         ·rename_i hf
          have:now.fields.length=0:=by rw [hk.2];rfl
          omega
    ·exact qqq r _ _ _ _ _ _ h hk (fun h3=>by simp) hc hm
theorem zbr {text:qa} (h:(ja text).1=none):cntI (ja text).2≤400:=
 qqq (zn text) 0 false now0 0 [] _ ((qdp text).trans (Prod.ext h rfl)) (.inr ⟨rfl,rfl⟩) (by simp [now0]) (by simp [cntI,now0]) (by omega)
structure GL (l:qz):Prop where
 ok:∀ e∈l.ents,qaz e.x∧(0<e.id↔e.x.kind=3)
 nx:1≤l.next
 mn:l.many=cntI (zv l)
 le:cntI (zv l)≤400
theorem zbf {l:qz} {x:ze} (h:GL l) (hx:qaz x) (hc:cntI (zv l)+cntI [x]≤400):GL (xl l x):=by
 obtain⟨h1,h2,h3,h4⟩:=h;rw [x3] at hc;unfold xl;by_cases hk:x.kind=3
 ·rw [if_pos hk]
  refine⟨fun e he=>?_,by simp only;omega,?_,?_⟩
  ·rcases List.mem_append.1 he with he|he
   ·exact h1 e he
   ·simp only [List.mem_cons,List.not_mem_nil,or_false] at he
    subst he;exact⟨hx,fun _=>hk,fun _=>by show 0<l.next;omega⟩
  ·simp only [zv,List.map_append,qbf,List.map_cons,List.map_nil,x3] at h3 ⊢
   rw [if_pos hk];simp [cntI] at h3 ⊢;omega
  ·rw [if_pos hk] at hc
   simp only [zv,List.map_append,qbf,List.map_cons,List.map_nil,x3] at hc ⊢;rw [if_pos hk];exact hc
 ·rw [if_neg hk]
  refine⟨fun e he=>?_,h2,?_,?_⟩
  ·rcases List.mem_append.1 he with he|he
   ·exact h1 e he
   ·simp only [List.mem_cons,List.not_mem_nil,or_false] at he
    subst he;exact⟨hx,by simp [hk]⟩
  ·simp only [zv,List.map_append,qbf,List.map_cons,List.map_nil,x3] at h3 ⊢
   rw [if_neg hk];simp [cntI] at h3 ⊢;omega
  ·rw [if_neg hk] at hc
   simp only [zv,List.map_append,qbf,List.map_cons,List.map_nil,x3] at hc ⊢;rw [if_neg hk];exact hc
theorem q4u (l:qz) (x:ze):zv (xl l x)=zv l++[x]:=by
 unfold xl zv;split <;> simp
theorem qym:∀ (its:List ze) (l:qz),GL l→(∀ x∈its,qaz x)→cntI (zv l)+cntI its≤400→GL (its.foldl xl l)
 | [],l,h,_,_=>h
 |x::r,l,h,hx,hc=>by
  rw [x3] at hc;refine qym r (xl l x) (zbf h (hx x (by simp)) ?_) (fun y hy=>hx y (by simp [hy])) ?_
  ·rw [x3,show cntI []=0 from rfl];omega
  ·rw [q4u,qbf,x3]
   rw [show cntI []=0 from rfl];omega
theorem zj3 {its:List ze} (hx:∀ x∈its,qaz x) (hc:cntI its≤400):GL (ofF its):=
 qym its ⟨[],1,0⟩ ⟨by simp,by simp,by simp [zv,cntI],by simp [zv,cntI]⟩ hx (by simpa [zv,cntI] using hc)
theorem q20 {fs:List Fld} (h:jx fs = .no):qaz (yx fs)∧(yx fs).kind=3:=by
 obtain⟨h1,h2,h3⟩:=qei h;unfold yx;rw [if_pos h];exact⟨q4p ⟨h2,h3⟩ h1,rfl⟩
theorem qov {l:List ze} {i:Nat} {x:ze} (h:l[i]? = some x):cntI l=cntI (l.take i)+(if x.kind=3 then 1 else 0)+cntI (l.drop (i+1)):=by
 obtain⟨b4,rfl⟩:=List.getElem?_eq_some_iff.1 h;have:=congrArg cntI (List.take_append_drop i l);rw [qbf,List.drop_eq_getElem_cons b4,x3] at this;omega
theorem zfn {l:qz} (h:GL l) (id:Int) (fs:List Fld):GL (y8 l id fs).2:=by
 unfold y8;split
 ·exact h
 ·rename_i ha
  split
  ·rename_i hf
   obtain⟨hp,lk⟩:=q20 hf;rcases qdx l id with g | ⟨i,e,g1,g2,g3,g4⟩
   ·omega
   ·rw [g1,Int.toNat_natCast]
    unfold qlf;rw [g2];simp only;have hem:=List.mem_of_getElem? g2;obtain⟨b4,dq⟩:=List.getElem?_eq_some_iff.1 g2;have hek:e.x.kind=3:=(h.ok e hem).2.1 (by omega)
    have fx:cntI ((l.ents.set i ⟨yx fs,e.id⟩).map fun e=>e.x)=cntI (l.ents.map fun e=>e.x):=by
     have a1:=qov (l:=l.ents.map fun e=>e.x) (i:=i) (x:=e.x) (by simp [g2]);have a2:=qov (l:=(l.ents.set i ⟨yx fs,e.id⟩).map fun e=>e.x) (i:=i) (x:=yx fs) (by simp [b4]);rw [a1,a2,← List.map_take,← List.map_take,← List.map_drop,← List.map_drop,List.take_set_of_le (Nat.le_refl _),List.drop_set_of_lt (by omega),hek,lk]
    refine⟨fun y hy=>?_,h.nx,?_,?_⟩
    ·rcases List.mem_or_eq_of_mem_set hy with hy|rfl
     ·exact h.ok y hy
     ·exact⟨hp,fun _=>lk,fun _=>by show 0<e.id;omega⟩
    ·exact h.mn.trans (congrArg Int.ofNat fx).symm
    ·exact Nat.le_trans (Nat.le_of_eq fx) h.le
  ·exact h
theorem zhc {l:qz} (h:GL l) (id:Int):GL (delF l id).2:=by
 unfold delF;split
 ·exact h
 ·rcases qdx l id with g | ⟨i,e,g1,g2,g3,g4⟩
  ·omega
  ·rw [g1,Int.toNat_natCast]
   have hem:=List.mem_of_getElem? g2;have hek:e.x.kind=3:=(h.ok e hem).2.1 (by omega);have a1:=qov (l:=zv l) (i:=i) (x:=e.x) (by simp [zv,g2]);rw [hek,if_pos rfl] at a1
   have a2:cntI (zv (delL l i))=cntI ((zv l).take i)+cntI ((zv l).drop (i+1)):=by
    unfold delL zv;rw [List.map_append,qbf,List.map_take,List.map_drop]
   have hm:=h.mn;have hl:=h.le;refine⟨fun y hy=>?_,h.nx,?_,?_⟩
   ·rcases List.mem_append.1 hy with hy|hy
    ·exact h.ok y (List.mem_of_mem_take hy)
    ·exact h.ok y (List.mem_of_mem_drop hy)
   ·rw [a2]
    show l.many - 1=_
    omega
   ·rw [a2]
    omega
theorem zhp {l:qz} (h:GL l) (id:Int) (fs:List Fld):GL (insF l id fs).2.2:=by
 unfold insF;split
 ·exact h
 ·split
  ·rename_i hf
   obtain⟨hp,lk⟩:=q20 hf;split
   ·exact h
   ·rename_i hm4
    generalize (atF l id+1).toNat=k
    have a1:cntI (zv (insL l k (yx fs)))=cntI (zv l)+1:=by
     unfold insL zv;rw [List.map_append,qbf,List.map_cons,x3,lk,if_pos rfl,List.map_take,List.map_drop];have:=congrArg cntI (List.take_append_drop k (l.ents.map fun e=>e.x));rw [qbf] at this;omega
    have hm:=h.mn;have hl:=h.le;have hn:=h.nx;refine⟨fun y hy=>?_,?_,?_,?_⟩
    ·rcases List.mem_append.1 hy with hy|hy
     ·exact h.ok y (List.mem_of_mem_take hy)
     ·rcases List.mem_cons.1 hy with rfl|hy
      ·exact⟨hp,fun _=>lk,fun _=>by show 0<l.next;omega⟩
      ·exact h.ok y (List.mem_of_mem_drop hy)
    ·show 1≤l.next+1
     omega
    ·rw [a1]
     show l.many+1=_
     omega
    ·rw [a1]
     omega
  ·exact h
theorem zh9 {l:qz} (h:GL l) (x:qr):GL (oneF l x).2.2:=by
 unfold oneF;split
 ·exact zfn h _ _
 ·split
  ·exact zhc h _
  ·exact zhp h _ _
theorem qxy:∀ (b:List qr) (k:Nat) (l:qz) (ids:List Int),GL l→GL (xj k b l ids).2.1
 | [],_,l,_,h=>h
 |x::r,k,l,ids,h=>by
  unfold xj;split
  ·exact qxy r _ _ _ (zh9 h x)
  ·exact h
theorem zai {l:qz} (h:GL l) (b:List qr):GL (doF l b).2.1:=by
 unfold doF;split
 ·exact qxy b 0 l [] h
 ·exact h
theorem qrp:∀ (bs:List (List qr)) (r:RunV),GL r.l→GL (vu bs r).2.l
 | [],r,h=>h
 |b::bs,r,h=>by
  unfold vu;split
  ·exact qrp bs _ (zai h b)
  ·first|exact zai h b|exact h
theorem q41 {text:qa} (h:z8 text = .no):(ja text).1=none∧text.length≤60000∧itsE text=(ja text).2:=by
 unfold z8 at h;unfold itsE;split at h
 ·simp at h
 ·rename_i hl
  rw [if_neg hl];refine⟨?_,by omega,rfl⟩
  cases hp:(ja text).1 with
  |none=>rfl
  |some x=>rw [hp] at h;simp at h
theorem ze8 (base:qa) (bs:List (List qr)) (h:z8 base = .no):GL (vn base bs).2.l:=by
 obtain⟨h1,h2,h3⟩:=q41 h;unfold vn;rw [if_pos h];refine qrp bs _ (zj3 ?_ ?_)
 ·rw [h3];exact qpr h1
 ·rw [h3];exact zbr h1
theorem zcx {l:qz} (h:GL l):ja (qav l)=(none,yt (zv l)):=by
 refine q2w (fun x hx=>?_) h.le;obtain⟨e,he,rfl⟩:=List.mem_map.1 hx;exact (h.ok e he).1
end Go.Pl
namespace Go.Pl
open Go Go.Proofs
def cntF (es:List EntV):Nat:=es.countP fun e=>decide (0<e.id)
theorem qou (es:List EntV) (e:EntV):cntF (es++[e])=cntF es+if 0<e.id then 1 else 0:=by
 unfold cntF;rw [List.countP_append];by_cases h:0<e.id <;> simp [h]
theorem zg5 (es:List EntV):cntF es≤es.length:=List.countP_le_length
end Go.Pl
namespace Go.Proofs.YtneejjefekdgjaaGreatDoor
open Go Go.Av Go.RowKit Go.Proofs Go.Pl
theorem qj9 {a b c d:AV} (h1:Pure a) (h2:Pure b) (h3:Pure c) (h4:Pure d):Pure (.tu [a,b,c,d]):=qdo fun z hz=>by
 simp only [List.mem_cons,List.not_mem_nil,or_false] at hz;rcases hz with rfl|rfl|rfl|rfl
 ·exact h1
 ·exact h2
 ·exact h3
 ·exact h4
@[reducible] def qdt (es : List EntV) : AV := .sl 4 (es.map entA) none
@[reducible] def ve (l : qz) : AV := .ag [qdt l.ents, Iv l.next]
theorem q75 (es:List EntV):Pure (qdt es):=qbq fun x hx=>by
 obtain⟨f,_,rfl⟩:=List.mem_map.1 hx;exact qt8 f
theorem yr (l:qz):Pure (ve l):=yg fun y hy=>by
 simp only [AV.cells,List.mem_cons,List.not_mem_nil,or_false] at hy;rcases hy with rfl|rfl
 ·exact q75 _
 ·exact qq _
def ofR (text:qa):qz:=if z8 text = .no then ofF (itsE text) else⟨[],0,0⟩
theorem q5e {text:qa} (h:z8 text = .no):qb7 text = .tu [j5 (itsE text),Iv (-9),Iv 0]:=by
 unfold qb7 itsE;unfold z8 at h;split
 ·rename_i hb
  rw [if_pos hb] at h;simp at h
 ·rename_i hb
  rw [if_neg hb] at h;rcases hp:(ja text).1 with _ | ⟨a,n⟩
  ·rfl
  ·rw [hp] at h
   simp at h
theorem zb7 (text:qa) (st:List AObj) (hl:text.length<1000000):qo E 36 [Sv text] st fun r st'=>r = .tu [ve (ofR text),Iv (z8 text).pos,Iv (z8 text).code]∧st'=st:=by
 refine zg [.s text] (yy (yr _) (qq _) (qq _)) Tryz.func36 rfl rfl (fun _=>rfl) rfl fun S0=>?_;unfold ofR;by_cases bv:z8 text = .no
 ·have hp:=fun st=>qpv text st hl
  rw [q5e bv] at hp;have db:=qso text;rw [bv,if_pos rfl];generalize itsE text=its at hp db;have lj:(its.map jh).length=its.length:=by simp
  apply qd [];repeat' (first|apply And.intro|(intro h;try exact cDd)|exact⟨Tryz.call78⟩|refine cpe hp ?_|exact cSd|apply qb []|refine exr ?_|refine qe ?_)
  refine zw (X:=Nat×qz) (fun (k,l)=>⟨[(2,.bx 0 0),(5,.a (j5 its)),(6,.i (-9)),(8,.bx 1 0),(9,.i k)],[(0,some (.cells 75 [.a zp,.i 0])),(1,some (.cells 75 [.tp 2,.i l.next])),(2,some (.tip 4 171 (l.ents.map entA)))],3⟩)
   (fun (k,l)=>k≤its.length∧l.ents.length=k∧(1≤l.next∧l.next≤k+1)∧(its.drop k).foldl xl l=ofF its) (fun (k,l)=>its.length - k) (0,⟨[],1,0⟩) ⟨by omega,rfl,⟨by decide,by decide⟩,rfl⟩ ?_ ?_
  ·skip
   repeat' (first|apply And.intro|(intro h;try exact cDd)|exact cSd|apply qb []|refine exr ?_|refine qe ?_)
   all_goals (simp;done)
  ·rintro⟨k,l⟩ ⟨hk,hlk,r7,a4⟩
   by_cases b8:k<its.length
   ·have hx:its[k]? = some its[k]:=List.getElem?_eq_getElem b8
    have c8:(its.map jh)[k]? = some (jh its[k]):=by rw [List.getElem?_map,hx];rfl
    rw [List.drop_eq_getElem_cons b8,List.foldl_cons] at a4;have e8:(l.ents.map entA).length=l.ents.length:=by simp
    generalize its[k]=x at hx c8 a4;by_cases br:x.kind=3
    ·have e:xl l x=⟨l.ents++[⟨x,l.next⟩],l.next+1,l.many+1⟩:=if_pos br
     rw [e] at a4;apply qd [];repeat' (first|apply And.intro|(intro h;try exact cDd)|(refine Exists.intro (k) ⟨by omega,_,c8,?_⟩)|(refine Exists.intro (k+1,⟨l.ents++[⟨x,l.next⟩],l.next+1,l.many+1⟩) ⟨⟨by omega,by simp [hlk],by simp only;omega,a4⟩,by simp only;omega,?_⟩)|exact cSd|apply qb []|refine exr ?_|refine qe ?_)
     all_goals (simp;done)
    ·have e:xl l x=⟨l.ents++[⟨x,0⟩],l.next,l.many⟩:=if_neg br
     rw [e] at a4;apply qd [];repeat' (first|apply And.intro|(intro h;try exact cDd)|(refine Exists.intro (k) ⟨by omega,_,c8,?_⟩)|(refine Exists.intro (k+1,⟨l.ents++[⟨x,0⟩],l.next,l.many⟩) ⟨⟨by omega,by simp [hlk],by simp only;omega,a4⟩,by simp only;omega,?_⟩)|exact cSd|apply qb []|refine exr ?_|refine qe ?_)
     all_goals (simp;done)
   ·have b8:k=its.length:=by omega
    subst b8;rw [List.drop_length] at a4;have e:ofF its=l:=a4.symm;rw [e];apply qd [];repeat' (first|apply And.intro|(intro h;try exact cDd)|exact cSd|apply qb []|refine exr ?_|refine qe ?_)
 ·obtain⟨its,p,n,s4,hp,hn,bz⟩:=qpw text hl
  have hz:n≠0:=fun h=>bv (bz.1 h);rw [if_neg bv,← hp,← hn];apply qd [];repeat' (first|apply And.intro|(intro h;try exact cDd)|exact⟨Tryz.call78⟩|refine cpe s4 ?_|exact cSd|apply qb []|refine exr ?_|refine qe ?_)
theorem qhw (l:qz) (id:Int) (st:List AObj) (hl:l.ents.length<1000000):qo E 117 [ve l,Iv id] st fun r st'=>r=Iv (atF l id)∧st'=st:=by
 refine zg [.a (ve l),.i id] (qq _) Tryz.func117 rfl rfl (fun _=>rfl) rfl fun S0=>?_;unfold atF;obtain⟨es,nx,mn⟩:=l;dsimp only at hl ⊢;have lj:(es.map entA).length=es.length:=by simp
 apply qd [];repeat' (first|apply And.intro|(intro h;try exact cDd)|exact cSd|apply qb []|refine exr ?_|refine qe ?_)
 refine zw (X:=Nat) (fun k=>⟨[(1,.i id),(2,.a (.pp [qdt es,Iv nx])),(5,.i k)],[],0⟩) (fun k=>k≤es.length∧(0<id→wo id k (es.drop k)=wo id 0 es)) (fun k=>es.length - k) 0 ⟨by omega,by simp⟩ ?_ ?_
 ·skip
  repeat' (first|apply And.intro|(intro h;try exact cDd)|exact cSd|apply qb []|refine exr ?_|refine qe ?_)
  all_goals (simp;done)
 ·rintro k ⟨hk,a4⟩
  by_cases h1:id<1
  ·rw [if_pos h1]
   apply qd [];repeat' (first|apply And.intro|(intro h;try exact cDd)|exact cSd|apply qb []|refine exr ?_|refine qe ?_)
  ·rw [if_neg h1]
   have a4:=a4 (by omega);by_cases b8:k<es.length
   ·have hx:es[k]? = some es[k]:=List.getElem?_eq_getElem b8
    have c8:(es.map entA)[k]? = some (entA es[k]):=by rw [List.getElem?_map,hx];rfl
    rw [List.drop_eq_getElem_cons b8,wo] at a4;generalize es[k]=e at hx c8 a4;by_cases o9:e.id=id
    ·rw [if_pos o9] at a4
     rw [← a4];apply qd [];repeat' (first|apply And.intro|(intro h;try exact cDd)|(refine Exists.intro (k) ⟨by omega,_,c8,?_⟩)|exact cSd|apply qb []|refine exr ?_|refine qe ?_)
    ·rw [if_neg o9] at a4
     apply qd [];repeat' (first|apply And.intro|(intro h;try exact cDd)|(refine Exists.intro (k) ⟨by omega,_,c8,?_⟩)|(refine Exists.intro (k+1) ⟨⟨by omega,fun _=>a4⟩,by omega,?_⟩)|exact cSd|apply qb []|refine exr ?_|refine qe ?_)
   ·have b8:k=es.length:=by omega
    subst b8;rw [List.drop_length,wo] at a4;rw [← a4];apply qd [];repeat' (first|apply And.intro|(intro h;try exact cDd)|exact cSd|apply qb []|refine exr ?_|refine qe ?_)
theorem q82 (l:qz) (st:List AObj) (hl:l.ents.length<1000000):qo E 235 [ve l] st fun r st'=>r=Iv (cntF l.ents)∧st'=st:=by
 refine zg [.a (ve l)] (qq _) Tryz.func235 rfl rfl (fun _=>rfl) rfl fun S0=>?_;obtain⟨es,nx,mn⟩:=l;dsimp only at hl ⊢;have lj:(es.map entA).length=es.length:=by simp
 apply qd [];repeat' (first|apply And.intro|(intro h;try exact cDd)|exact cSd|apply qb []|refine exr ?_|refine qe ?_)
 refine zw (X:=Nat) (fun k=>⟨[(1,.a (.pp [qdt es,Iv nx])),(3,.i (cntF (es.take k):Nat)),(4,.i k)],[],0⟩) (fun k=>k≤es.length) (fun k=>es.length - k) 0 (by omega) ?_ ?_
 ·skip
  repeat' (first|apply And.intro|(intro h;try exact cDd)|exact cSd|apply qb []|refine exr ?_|refine qe ?_)
  all_goals (simp [cntF];done)
 ·rintro k hk
  by_cases b8:k<es.length
  ·have hx:es[k]? = some es[k]:=List.getElem?_eq_getElem b8
   have c8:(es.map entA)[k]? = some (entA es[k]):=by rw [List.getElem?_map,hx];rfl
   have d2:es.take (k+1)=es.take k++[es[k]]:=by rw [List.take_add_one,hx];rfl
   have pt:=qou (es.take k) es[k];have cz:=zg5 (es.take k);have hcl2:(es.take k).length≤k:=by simp;omega
   rw [← d2] at pt;generalize es[k]=e at hx c8 pt;by_cases h0:0<e.id
   ·rw [if_pos h0] at pt
    apply qd [];repeat' (first|apply And.intro|(intro h;try exact cDd)|(refine Exists.intro (k) ⟨by omega,_,c8,?_⟩)|(refine Exists.intro (k+1) ⟨by omega,by omega,?_⟩)|exact cSd|apply qb []|refine exr ?_|refine qe ?_)
    all_goals (simp [pt];done)
   ·rw [if_neg h0] at pt
    apply qd [];repeat' (first|apply And.intro|(intro h;try exact cDd)|(refine Exists.intro (k) ⟨by omega,_,c8,?_⟩)|(refine Exists.intro (k+1) ⟨by omega,by omega,?_⟩)|exact cSd|apply qb []|refine exr ?_|refine qe ?_)
    all_goals (simp [pt];done)
  ·have b8:k=es.length:=by omega
   subst b8;rw [List.take_length];apply qd [];repeat' (first|apply And.intro|(intro h;try exact cDd)|exact cSd|apply qb []|refine exr ?_|refine qe ?_)
theorem qrt (fs:List Fld) (st:List AObj) (h:qzx fs):qo E 234 [jr fs] st fun r st'=>r=jh ⟨3,zu fs,fs⟩∧st'=st:=by
 refine zg [.a (jr fs)] (yg (qdl _)) Tryz.func234 rfl rfl (fun _=>rfl) rfl fun S0=>?_;have h1:=fun st=>qve fs st h;apply qd [];repeat' (first|apply And.intro|(intro h;try exact cDd)|exact⟨Tryz.call183⟩|refine cpe h1 ?_|exact cSd|apply qb []|refine exr ?_|refine qe ?_)
end Go.Proofs.YtneejjefekdgjaaGreatDoor
namespace Go.Pl
open Go Go.Proofs Go.Av
def dlF (i:Nat) (es:List EntV) (k:Nat):List EntV:=(es.take k).take i++(es.take k).drop (i+1)
theorem zji {i:Nat} {es:List EntV} {k:Nat} {e:EntV} (h:es[k]? = some e):dlF i es (k+1)=dlF i es k++if k=i then [] else [e]:=by
 have hk:=lt_of_getElem? h;have hl:(es.take k).length=k:=by simp;omega
 unfold dlF;rw [List.take_add_one,h];simp only [Option.toList_some];rw [List.take_append,List.drop_append,hl];by_cases dg:k=i
 ·subst dg
  rw [if_pos rfl];have e1:(es.take k).drop (k+1)=[]:=List.drop_eq_nil_of_le (by omega);simp [e1]
 ·rw [if_neg dg]
  by_cases b4:k<i
  ·have e1:(es.take k).drop (i+1)=[]:=List.drop_eq_nil_of_le (by omega)
   obtain⟨d,hd⟩:∃ d,i - k=d+1:=⟨i - k - 1,by omega⟩;have hd2:i+1 - k=d+1+1:=by omega
   rw [e1,hd,hd2];simp
  ·have hd:i - k=0:=by omega
   have hd2:i+1 - k=0:=by omega
   rw [hd,hd2];simp
def inF (j:Nat) (x:EntV) (es:List EntV) (k:Nat):List EntV:=(es.take k).take j++if j≤k then x::(es.take k).drop j else []
theorem zjq {j:Nat} {x:EntV} {es:List EntV} {k:Nat} {e:EntV} (h:es[k]? = some e):inF j x es (k+1)=inF j x es k++e::if j=k+1 then [x] else []:=by
 have hk:=lt_of_getElem? h;have hl:(es.take k).length=k:=by simp;omega
 unfold inF;rw [List.take_add_one,h];simp only [Option.toList_some];rw [List.take_append,List.drop_append,hl];by_cases hjk:j=k+1
 ·subst hjk
  have e1:(es.take k).drop (k+1)=[]:=List.drop_eq_nil_of_le (by omega);have e2:k+1 - k=1:=by omega
  rw [if_pos (Nat.le_refl _),if_pos rfl,if_neg (by omega),e1,e2];simp
 ·rw [if_neg hjk]
  by_cases b4:j≤k
  ·have hd:j - k=0:=by omega
   rw [if_pos (by omega),if_pos b4,hd];simp
  ·obtain⟨d,hd⟩:∃ d,j - k=d+1:=⟨j - k - 1,by omega⟩
   rw [if_neg (by omega),if_neg b4,hd];simp
end Go.Pl
namespace Go.Proofs.YtneejjefekdgjaaGreatDoor
open Go Go.Av Go.RowKit Go.Proofs Go.Pl
def rlR (l:qz) (e:ErrV):AV:=.tu [ve l,Iv e.pos,Iv e.code]
theorem zfs (l:qz) (e:ErrV):Pure (rlR l e):=yy (yr _) (qq _) (qq _)
theorem qtt (fs:List Fld) (h:jx fs≠.no):∃ p n,(jx fs).pos=p∧(jx fs).code=n∧n≠0:=⟨_,_,rfl,rfl,fun h'=>h ((qjt fs).1 h')⟩
theorem q5g (l:qz) (id:Int) (fs:List Fld) (st:List AObj) (hl:l.ents.length<1000000) (hK:KeyB fs) (d8:fs.length<1000000):qo E 159 [ve l,Iv id,jr fs] st fun r st'=>r=rlR (y8 l id fs).2 (y8 l id fs).1∧st'=st:=by
 refine zg [.a (ve l),.i id,.a (jr fs)] (zfs _ _) Tryz.func159 rfl rfl (fun _=>rfl) rfl fun S0=>?_;have h1:=fun st=>qhw l id st hl;have lj:(l.ents.map entA).length=l.ents.length:=by simp
 have h2:=fun st=>qkb fs st hK (by omega);unfold y8 rlR;rcases qdx l id with h | ⟨i,e,h,he,o9,tv⟩
 ·rw [h] at h1 ⊢
  rw [if_pos (by decide)];apply qd [];repeat' (first|apply And.intro|(intro h;try exact cDd)|exact⟨Tryz.call117⟩|refine cpe h1 ?_|exact cSd|apply qb []|refine exr ?_|refine qe ?_)
 ·rw [h] at h1 ⊢
  rw [if_neg (by omega)];have db:=lt_of_getElem? he;by_cases hc:jx fs = .no
  ·rw [hc] at h2
   obtain⟨_,g3,g4⟩:=qei hc;have h3:=fun st=>qrt fs st (qug g3 g4);rw [if_pos hc];unfold qlf yx;rw [if_pos hc,Int.toNat_natCast,he];simp only
   have c9:∀ k e',l.ents[k]? = some e'→(l.ents.set i ⟨⟨3,zu fs,fs⟩,e.id⟩).take (k+1)=(l.ents.set i ⟨⟨3,zu fs,fs⟩,e.id⟩).take k++[if k=i then⟨⟨3,zu fs,fs⟩,e.id⟩ else e']:=fun k e' h=>by
    have hk:=lt_of_getElem? h;rw [List.take_add_one];congr 1;by_cases dg:k=i
    ·subst dg
     rw [if_pos rfl,List.getElem?_set_self hk]
     try rfl
    ·rw [if_neg dg,List.getElem?_set_ne (fun h=>dg h.symm),h]
     rfl
   have cx:(l.ents.set i ⟨⟨3,zu fs,fs⟩,e.id⟩).length=l.ents.length:=by simp
   generalize l.ents.set i ⟨⟨3,zu fs,fs⟩,e.id⟩=es' at c9 cx;apply qd [];repeat' (first|apply And.intro|(intro h;try exact cDd)|exact⟨Tryz.call117⟩|refine cpe h1 ?_|exact⟨Tryz.call233⟩|refine cpe h2 ?_|exact cSd|apply qb []|refine exr ?_|refine qe ?_)
   refine zw (X:=Nat) (fun k=>⟨[(2,.a (jr fs)),(3,.a (.pp [qdt l.ents,Iv l.next])),(6,.bx 0 0),(9,.i i),(12,.bx 1 0),(13,.i k)],[(0,some (.cells 75 [.a zp,.i 0])),(1,some (.cells 75 [.tp 2,.i l.next])),(2,some (.tip 4 171 ((es'.take k).map entA)))],3⟩)
    (fun k=>k≤l.ents.length) (fun k=>l.ents.length - k) 0 (by omega) ?_ ?_
   ·skip
    repeat' (first|apply And.intro|(intro h;try exact cDd)|exact cSd|apply qb []|refine exr ?_|refine qe ?_)
    all_goals first|rfl|(simp;done)
   ·rintro k hk
    by_cases b8:k<l.ents.length
    ·have hx:l.ents[k]? = some l.ents[k]:=List.getElem?_eq_getElem b8
     have c8:(l.ents.map entA)[k]? = some (entA l.ents[k]):=by rw [List.getElem?_map,hx];rfl
     have d2:=c9 k _ hx;have mz:((es'.take k).map entA).length≤k:=by simp;omega
     by_cases dg:k=i
     ·have hee:l.ents[k]=e:=by
       have h1:=he;rw [← dg,hx] at h1
       simpa using h1
      rw [hee] at hx c8;rw [if_pos dg] at d2;apply qd [];repeat' (first|apply And.intro|(intro h;try exact cDd)|(refine Exists.intro (k) ⟨by omega,_,c8,?_⟩)|exact⟨Tryz.call234⟩|refine cpe h3 ?_|(refine Exists.intro (k+1) ⟨by omega,by omega,?_⟩)|exact absurd dg (by omega)|exact cSd|apply qb []|refine exr ?_|refine qe ?_)
      all_goals first|(rw [d2];simp;done)|omega|(simp;omega)
     ·rw [if_neg dg] at d2
      generalize l.ents[k]=e' at hx c8 d2;apply qd [];repeat' (first|apply And.intro|(intro h;try exact cDd)|(refine Exists.intro (k) ⟨by omega,_,c8,?_⟩)|(refine Exists.intro (k+1) ⟨by omega,by omega,?_⟩)|exact absurd (by omega) dg|exact cSd|apply qb []|refine exr ?_|refine qe ?_)
      all_goals first|(rw [d2];simp;done)|omega|(simp;omega)
    ·have b8:k=l.ents.length:=by omega
     subst b8;rw [List.take_of_length_le (by omega)];apply qd [];repeat' (first|apply And.intro|(intro h;try exact cDd)|exact cSd|apply qb []|refine exr ?_|refine qe ?_)
  ·obtain⟨p,n,hp,hn,bz⟩:=qtt fs hc
   rw [hp,hn] at h2;rw [if_neg hc,hp,hn];apply qd [];repeat' (first|apply And.intro|(intro h;try exact cDd)|exact⟨Tryz.call117⟩|refine cpe h1 ?_|exact⟨Tryz.call233⟩|refine cpe h2 ?_|exact cSd|apply qb []|refine exr ?_|refine qe ?_)
theorem q80 (l:qz) (id:Int) (st:List AObj) (hl:l.ents.length<1000000):qo E 160 [ve l,Iv id] st fun r st'=>r = .tu [ve (delF l id).2,Iv (delF l id).1.code]∧st'=st:=by
 refine zg [.a (ve l),.i id] (jg (yr _) (qq _)) Tryz.func160 rfl rfl (fun _=>rfl) rfl fun S0=>?_;have h1:=fun st=>qhw l id st hl;have lj:(l.ents.map entA).length=l.ents.length:=by simp
 unfold delF;rcases qdx l id with h | ⟨i,e,h,he,o9,tv⟩
 ·rw [h] at h1 ⊢
  rw [if_pos (by decide)];apply qd [];repeat' (first|apply And.intro|(intro h;try exact cDd)|exact⟨Tryz.call117⟩|refine cpe h1 ?_|exact cSd|apply qb []|refine exr ?_|refine qe ?_)
 ·rw [h] at h1 ⊢
  rw [if_neg (by omega),Int.toNat_natCast];unfold delL;simp only;have bf:dlF i l.ents l.ents.length=l.ents.take i++l.ents.drop (i+1):=by unfold dlF;rw [List.take_length]
  have dj:∀ k,k≤l.ents.length→((dlF i l.ents k).map entA).length≤k:=fun k hk=>by
   simp [dlF];omega
  rw [← bf];apply qd [];repeat' (first|apply And.intro|(intro h;try exact cDd)|exact⟨Tryz.call117⟩|refine cpe h1 ?_|exact cSd|apply qb []|refine exr ?_|refine qe ?_)
  refine zw (X:=Nat) (fun k=>⟨[(2,.a (.pp [qdt l.ents,Iv l.next])),(4,.bx 0 0),(6,.i i),(7,.bx 1 0),(8,.i k)],[(0,some (.cells 75 [.a zp,.i 0])),(1,some (.cells 75 [.tp 2,.i l.next])),(2,some (.tip 4 171 ((dlF i l.ents k).map entA)))],3⟩)
   (fun k=>k≤l.ents.length) (fun k=>l.ents.length - k) 0 (by omega) ?_ ?_
  ·skip
   repeat' (first|apply And.intro|(intro h;try exact cDd)|exact cSd|apply qb []|refine exr ?_|refine qe ?_)
   all_goals first|rfl|(simp [dlF];done)|(simp [dlF];rfl)
  ·rintro k hk
   by_cases b8:k<l.ents.length
   ·have hx:l.ents[k]? = some l.ents[k]:=List.getElem?_eq_getElem b8
    have c8:(l.ents.map entA)[k]? = some (entA l.ents[k]):=by rw [List.getElem?_map,hx];rfl
    have d2:=zji (i:=i) hx;have mz:=dj k hk;rw [List.length_map] at mz;generalize l.ents[k]=e' at hx c8 d2;by_cases dg:k=i
    ·rw [if_pos dg,List.append_nil] at d2
     apply qd [];repeat' (first|apply And.intro|(intro h;try exact cDd)|(refine Exists.intro (k+1) ⟨by omega,by omega,?_⟩)|exact absurd dg (by omega)|exact cSd|apply qb []|refine exr ?_|refine qe ?_)
     all_goals first|(rw [d2];done)|omega|(simp;omega)
    ·rw [if_neg dg] at d2
     apply qd [];repeat' (first|apply And.intro|(intro h;try exact cDd)|(refine Exists.intro (k) ⟨by omega,_,c8,?_⟩)|(refine Exists.intro (k+1) ⟨by omega,by omega,?_⟩)|exact absurd (by omega) dg|exact cSd|apply qb []|refine exr ?_|refine qe ?_)
     all_goals first|(rw [d2];simp;done)|omega|(simp;omega)
   ·have b8:k=l.ents.length:=by omega
    subst b8;apply qd [];repeat' (first|apply And.intro|(intro h;try exact cDd)|exact cSd|apply qb []|refine exr ?_|refine qe ?_)
def rlR4 (l:qz) (n:Int) (e:ErrV):AV:=.tu [ve l,Iv n,Iv e.pos,Iv e.code]
theorem zcb (l:qz) (n:Int) (e:ErrV):Pure (rlR4 l n e):=qj9 (yr _) (qq _) (qq _) (qq _)
set_option maxHeartbeats 4000000 in
theorem q81 (l:qz) (id:Int) (fs:List Fld) (st:List AObj) (hl:l.ents.length<1000000) (hn:1≤l.next∧l.next<1000000) (hM:l.many=cntF l.ents) (hK:KeyB fs) (d8:fs.length<1000000):qo E 161 [ve l,Iv id,jr fs] st fun r st'=>r=rlR4 (insF l id fs).2.2 (insF l id fs).1 (insF l id fs).2.1∧st'=st:=by
 refine zg [.a (ve l),.i id,.a (jr fs)] (zcb _ _ _) Tryz.func161 rfl rfl (fun _=>rfl) rfl fun S0=>?_;have h1:=fun st=>qhw l id st hl;have lj:(l.ents.map entA).length=l.ents.length:=by simp
 have h2:=fun st=>qkb fs st hK (by omega);have h3:=fun st=>q82 l st hl;unfold insF rlR4;rw [hM];rcases Decidable.em (atF l id<0∧id≠0) with hb|hb
 ·rw [if_pos hb]
  obtain⟨i5,i6⟩:=hb;generalize atF l id=a at i5 h1;apply qd [];repeat' (first|apply And.intro|(intro h;try exact cDd)|exact⟨Tryz.call117⟩|refine cpe h1 ?_|exact cSd|apply qb []|refine exr ?_|refine qe ?_)
 ·rw [if_neg hb]
  obtain⟨a,j,ha,hj,hjl,sb⟩:∃ (a:Int) (j:Nat),atF l id=a∧a+1=(j:Int)∧j≤l.ents.length∧(0≤a∨a = -1∧id=0):=by
   rcases qdx l id with h | ⟨i,e,h,he,_⟩
   ·exact⟨-1,0,h,rfl,by omega,.inr ⟨rfl,Decidable.not_not.1 fun h0=>hb ⟨by omega,h0⟩⟩⟩
   ·have:=lt_of_getElem? he
    exact⟨i,i+1,h,rfl,by omega,.inl (by omega)⟩
  rw [ha] at h1 hb ⊢;rw [hj,Int.toNat_natCast];by_cases hc:jx fs = .no
  ·rw [hc] at h2
   rw [if_pos hc];by_cases hm:400≤(cntF l.ents:Int)
   ·rw [if_pos hm]
    generalize cntF l.ents=m at h3 hm;rcases sb with sb | ⟨sb,hor2⟩
    ·apply qd []
     repeat' (first|apply And.intro|(intro h;try exact cDd)|exact⟨Tryz.call117⟩|refine cpe h1 ?_|exact⟨Tryz.call233⟩|refine cpe h2 ?_|exact⟨Tryz.call235⟩|refine cpe h3 ?_|exact cSd|apply qb []|refine exr ?_|refine qe ?_)
    ·apply qd []
     repeat' (first|apply And.intro|(intro h;try exact cDd)|exact⟨Tryz.call117⟩|refine cpe h1 ?_|exact⟨Tryz.call233⟩|refine cpe h2 ?_|exact⟨Tryz.call235⟩|refine cpe h3 ?_|exact cSd|apply qb []|refine exr ?_|refine qe ?_)
   ·rw [if_neg hm]
    generalize cntF l.ents=m at h3 hm;obtain⟨_,g3,g4⟩:=qei hc;have h4:=fun st=>qrt fs st (qug g3 g4);unfold insL yx;rw [if_pos hc];simp only
    have bf:inF j ⟨⟨3,zu fs,fs⟩,l.next⟩ l.ents l.ents.length=l.ents.take j++⟨⟨3,zu fs,fs⟩,l.next⟩::l.ents.drop j:=by
     unfold inF;rw [List.take_length,if_pos hjl]
    have dj:∀ k,k≤l.ents.length→((inF j ⟨⟨3,zu fs,fs⟩,l.next⟩ l.ents k).map entA).length≤k+1:=fun k hk=>by
     unfold inF;split
     ·simp
      omega
     ·simp
      omega
    rw [← bf]
    have h0:0≤a→inF j ⟨⟨3,zu fs,fs⟩,l.next⟩ l.ents 0=[]:=fun h=>by
     unfold inF;rw [if_neg (by omega)];simp
    have h00:a = -1→inF j ⟨⟨3,zu fs,fs⟩,l.next⟩ l.ents 0=[⟨⟨3,zu fs,fs⟩,l.next⟩]:=fun h=>by
     unfold inF;rw [if_pos (by omega)];simp
    have b7:=fun k e'=>zjq (j:=j) (x:=⟨⟨3,zu fs,fs⟩,l.next⟩) (es:=l.ents) (k:=k) (e:=e');generalize inF j ⟨⟨3,zu fs,fs⟩,l.next⟩ l.ents=iF at dj h0 h00 b7;rcases sb with sb | ⟨sb,hor2⟩
    ·have h0:=h0 sb
     clear h00;apply qd [];repeat' (first|apply And.intro|(intro h;try exact cDd)|exact⟨Tryz.call117⟩|refine cpe h1 ?_|exact⟨Tryz.call233⟩|refine cpe h2 ?_|exact⟨Tryz.call235⟩|refine cpe h3 ?_|exact⟨Tryz.call234⟩|refine cpe h4 ?_|exact cSd|apply qb []|refine exr ?_|refine qe ?_)
     refine zw (X:=Nat) (fun k=>⟨[(3,.a (.pp [qdt l.ents,Iv l.next])),(6,.bx 0 0),(10,.i a),(13,.bx 1 0),(14,.bx 2 0),(15,.i k)],[(0,some (.cells 75 [.a zp,.i 0])),(1,some (.cells 75 [.tp 3,.i (l.next+1)])),(2,some (.cells 171 [.i 3,.s (zu fs),.a (jr fs),.i l.next])),(3,some (.tip 4 171 ((iF k).map entA)))],4⟩)
      (fun k=>k≤l.ents.length) (fun k=>l.ents.length - k) 0 (by omega) ?_ ?_
     ·skip
      repeat' (first|apply And.intro|(intro h;try exact cDd)|exact cSd|apply qb []|refine exr ?_|refine qe ?_)
      all_goals first|rfl|(simp [h0];done)|(simp [h0];rfl)
     ·rintro k hk
      by_cases b8:k<l.ents.length
      ·have hx:l.ents[k]? = some l.ents[k]:=List.getElem?_eq_getElem b8
       have c8:(l.ents.map entA)[k]? = some (entA l.ents[k]):=by rw [List.getElem?_map,hx];rfl
       have d2:=b7 k _ hx;have mz:=dj k hk;rw [List.length_map] at mz;generalize l.ents[k]=e' at hx c8 d2;by_cases dg:j=k+1
       ·rw [if_pos dg] at d2
        apply qd [];repeat' (first|apply And.intro|(intro h;try exact cDd)|(refine Exists.intro (k) ⟨by omega,_,c8,?_⟩)|(refine Exists.intro (k+1) ⟨by omega,by omega,?_⟩)|exact absurd dg (by omega)|exact cSd|apply qb []|refine exr ?_|refine qe ?_)
        all_goals first|(rw [d2];simp;done)|omega|(simp;omega)
       ·rw [if_neg dg] at d2
        apply qd [];repeat' (first|apply And.intro|(intro h;try exact cDd)|(refine Exists.intro (k) ⟨by omega,_,c8,?_⟩)|(refine Exists.intro (k+1) ⟨by omega,by omega,?_⟩)|exact absurd (by omega) dg|exact cSd|apply qb []|refine exr ?_|refine qe ?_)
        all_goals first|(rw [d2];simp;done)|omega|(simp;omega)
      ·have b8:k=l.ents.length:=by omega
       subst b8;apply qd [];repeat' (first|apply And.intro|(intro h;try exact cDd)|exact cSd|apply qb []|refine exr ?_|refine qe ?_)
    ·have hz:=h00 sb
     clear h00 h0;subst sb;apply qd [];repeat' (first|apply And.intro|(intro h;try exact cDd)|exact⟨Tryz.call117⟩|refine cpe h1 ?_|exact⟨Tryz.call233⟩|refine cpe h2 ?_|exact⟨Tryz.call235⟩|refine cpe h3 ?_|exact⟨Tryz.call234⟩|refine cpe h4 ?_|exact cSd|apply qb []|refine exr ?_|refine qe ?_)
     refine zw (X:=Nat) (fun k=>⟨[(3,.a (.pp [qdt l.ents,Iv l.next])),(6,.bx 0 0),(10,.i (-1)),(13,.bx 1 0),(14,.bx 2 0),(15,.i k)],[(0,some (.cells 75 [.a zp,.i 0])),(1,some (.cells 75 [.tp 3,.i (l.next+1)])),(2,some (.cells 171 [.i 3,.s (zu fs),.a (jr fs),.i l.next])),(3,some (.tip 4 171 ((iF k).map entA)))],4⟩)
      (fun k=>k≤l.ents.length) (fun k=>l.ents.length - k) 0 (by omega) ?_ ?_
     ·skip
      repeat' (first|apply And.intro|(intro h;try exact cDd)|exact cSd|apply qb []|refine exr ?_|refine qe ?_)
      all_goals first|rfl|(simp [hz];done)|(simp [hz];rfl)
     ·rintro k hk
      by_cases b8:k<l.ents.length
      ·have hx:l.ents[k]? = some l.ents[k]:=List.getElem?_eq_getElem b8
       have c8:(l.ents.map entA)[k]? = some (entA l.ents[k]):=by rw [List.getElem?_map,hx];rfl
       have d2:=b7 k _ hx;have mz:=dj k hk;rw [List.length_map] at mz;generalize l.ents[k]=e' at hx c8 d2;rw [if_neg (by omega)] at d2;apply qd [];repeat' (first|apply And.intro|(intro h;try exact cDd)|(refine Exists.intro (k) ⟨by omega,_,c8,?_⟩)|(refine Exists.intro (k+1) ⟨by omega,by omega,?_⟩)|exact cSd|apply qb []|refine exr ?_|refine qe ?_)
       all_goals first|(rw [d2];simp;done)|omega|(simp;omega)
      ·have b8:k=l.ents.length:=by omega
       subst b8;apply qd [];repeat' (first|apply And.intro|(intro h;try exact cDd)|exact cSd|apply qb []|refine exr ?_|refine qe ?_)
  ·obtain⟨p,n,hp,hn,bz⟩:=qtt fs hc
   rw [hp,hn] at h2;rw [if_neg hc,hp,hn];rcases sb with sb | ⟨sb,hor2⟩
   ·apply qd []
    repeat' (first|apply And.intro|(intro h;try exact cDd)|exact⟨Tryz.call117⟩|refine cpe h1 ?_|exact⟨Tryz.call233⟩|refine cpe h2 ?_|exact cSd|apply qb []|refine exr ?_|refine qe ?_)
   ·apply qd []
    repeat' (first|apply And.intro|(intro h;try exact cDd)|exact⟨Tryz.call117⟩|refine cpe h1 ?_|exact⟨Tryz.call233⟩|refine cpe h2 ?_|exact cSd|apply qb []|refine exr ?_|refine qe ?_)
end Go.Proofs.YtneejjefekdgjaaGreatDoor
namespace Go.Pl
open Go Go.Proofs Go.Av
def LM (l:qz):Prop:=l.many=cntF l.ents
theorem qg5 (a b:List EntV):cntF (a++b)=cntF a+cntF b:=by simp [cntF]
theorem qku (e:EntV) (b:List EntV):cntF (e::b)=(if 0<e.id then 1 else 0)+cntF b:=by
 by_cases h:0<e.id <;> simp [cntF,h] <;> omega
theorem zad {l:List EntV} {i:Nat} {e:EntV} (h:l[i]? = some e):l=l.take i++e::l.drop (i+1):=by
 obtain⟨hi,rfl⟩:=List.getElem?_eq_some_iff.1 h;rw [← List.drop_eq_getElem_cons hi,List.take_append_drop]
theorem zfr {l:qz} (h:LM l) (id:Int) (fs:List Fld):LM (y8 l id fs).2:=by
 unfold y8;split
 ·exact h
 ·split
  ·unfold qlf
   split
   ·rename_i e he
    unfold LM at h ⊢;simp only;rw [h];have h1:=zad he;have hi:=lt_of_getElem? he;rw [List.set_eq_take_append_cons_drop,if_pos hi]
    conv=>lhs;rw [h1]
    rw [qg5,qg5,qku,qku]
   ·exact h
  ·exact h
theorem zhg {l:qz} (h:LM l) (id:Int):LM (delF l id).2:=by
 unfold delF;split
 ·exact h
 ·rename_i hn
  rcases qdx l id with g | ⟨i,e,g,he,o9,tv⟩
  ·exact absurd (by rw [g];decide) hn
  ·rw [g,Int.toNat_natCast]
   unfold LM delL at *;simp only;rw [h];have h1:=zad he
   conv=>lhs;rw [h1]
   rw [qg5,qg5,qku,if_pos (by omega)];omega
theorem zht {l:qz} (h:LM l) (hn:1≤l.next) (id:Int) (fs:List Fld):LM (insF l id fs).2.2:=by
 unfold insF;split
 ·exact h
 ·split
  ·split
   ·exact h
   ·unfold LM insL at *
    simp only;rw [h,qg5,qku,if_pos (by simp only;omega)]
    conv=>lhs;rw [← List.take_append_drop (atF l id+1).toNat l.ents]
    rw [qg5];omega
  ·exact h
theorem q2o:∀ (its:List ze) (l:qz),LM l→1≤l.next→LM (its.foldl xl l)∧1≤(its.foldl xl l).next
 | [],l,h,hn=>⟨h,hn⟩
 |x::r,l,h,hn=>by
  rw [List.foldl_cons];unfold xl;split
  ·refine q2o r _ ?_ (by simp only;omega)
   unfold LM at *;simp only;rw [qou,if_pos (by simp only;omega),h];omega
  ·refine q2o r _ ?_ hn
   unfold LM at *;simp only;rw [qou,if_neg (by simp),h];omega
theorem zbc (its:List ze):LM (ofF its):=(q2o its ⟨[],1,0⟩ (by simp [LM,cntF]) (by decide)).1
end Go.Pl
namespace Go.Proofs.YtneejjefekdgjaaGreatDoor
open Go Go.Av Go.RowKit Go.Proofs Go.Pl
theorem q6q {l:qz} (h:LM l) (hn:1≤l.next) (x:qr):LM (oneF l x).2.2:=by
 unfold oneF;split
 ·exact zfr h _ _
 ·split
  ·exact zhg h _
  ·exact zht h hn _ _
theorem qx2:∀ (b:List qr) (k n:Nat) (l:qz) (ids:List Int),LM l→LB n l→n+b.length<900000→LM (xj k b l ids).2.1
 | [],k,n,l,ids,h,_,_=>h
 |x::r,k,n,l,ids,h,hB,hs=>by
  simp only [List.length_cons] at hs;unfold xj;split
  ·exact qx2 r (k+1) (n+1) _ _ (q6q h hB.nx0 x) (qqm hB (by omega) x) (by omega)
  ·exact h
theorem zak {n:Nat} {l:qz} (h:LM l) (hB:LB n l) (hs:n+40<900000) (b:List qr):LM (doF l b).2.1:=by
 unfold doF;split
 ·rename_i he
  obtain⟨h1,h2,_⟩:=qdk he;exact qx2 b 0 n l [] h hB (by omega)
 ·exact h
theorem q83 (n:Nat) (l:qz) (x:qr) (st:List AObj) (hB:LB n l) (hM:LM l) (hK:KeyB x.fields) (hl:x.fields.length<1000000):qo E 97 [ve l,ji x] st fun r st'=>r = .tu [ve (oneF l x).2.2,Iv (oneF l x).1,Iv (oneF l x).2.1.code]∧st'=st:=by
 refine zg [.a (ve l),.a (ji x)] (yy (yr _) (qq _) (qq _)) Tryz.func97 rfl rfl (fun _=>rfl) rfl fun S0=>?_;have g1:=hB.len;have g2:=hB.nx0;have g3:=hB.nx1;have g4:=hB.small;unfold oneF;by_cases h1:x.kind=1
 ·rw [if_pos h1]
  have hc:=fun st=>q5g l x.id x.fields st (by omega) hK hl;unfold rlR at hc;generalize y8 l x.id x.fields=r at hc;apply qd [];repeat' (first|apply And.intro|(intro h;try exact cDd)|exact⟨Tryz.call159⟩|refine cpe hc ?_|exact cSd|apply qb []|refine exr ?_|refine qe ?_)
 ·rw [if_neg h1]
  by_cases h2:x.kind=2
  ·rw [if_pos h2]
   have hc:=fun st=>q80 l x.id st (by omega);generalize delF l x.id=r at hc;apply qd [];repeat' (first|apply And.intro|(intro h;try exact cDd)|exact⟨Tryz.call160⟩|refine cpe hc ?_|exact cSd|apply qb []|refine exr ?_|refine qe ?_)
  ·rw [if_neg h2]
   have hc:=fun st=>q81 l x.id x.fields st (by omega) ⟨by omega,by omega⟩ hM hK hl;unfold rlR4 at hc;generalize insF l x.id x.fields=r at hc;apply qd [];repeat' (first|apply And.intro|(intro h;try exact cDd)|exact⟨Tryz.call161⟩|refine cpe hc ?_|exact cSd|apply qb []|refine exr ?_|refine qe ?_)
def doR (l:qz) (r:ErrV×qz×List Int):AV:=if r.1 = .no then .tu [ve r.2.1,yf r.2.2,Iv (-9),Iv 0] else .tu [ve l,yf [],Iv r.1.pos,Iv r.1.code]
theorem zd5 (l:qz) (r:ErrV×qz×List Int):Pure (doR l r):=by
 unfold doR;split
 ·exact qj9 (yr _) (qa2 _) (qq _) (qq _)
 ·exact qj9 (yr _) (qa2 _) (qq _) (qq _)
theorem zb3 (n:Nat) (l:qz) (b:List qr) (st:List AObj) (hB:LB n l) (hM:LM l) (hn:n+40<900000) (hE:∀ x∈b,EdB x) (hl:b.length<1000000):qo E 47 [ve l,jo b] st fun r st'=>r=doR l (doF l b)∧st'=st:=by
 refine zg [.a (ve l),.a (jo b)] (zd5 _ _) Tryz.func47 rfl rfl (fun _=>rfl) rfl fun S0=>?_;have cn:=fun st=>qpt b st hE (by omega);have lj:(b.map ji).length=b.length:=by simp
 unfold doF;by_cases he:eErr b = .no
 ·rw [he] at cn
  rw [if_pos he];obtain⟨i5,hb40,hg⟩:=qdk he;apply qd [];repeat' (first|apply And.intro|(intro h;try exact cDd)|exact⟨Tryz.call96⟩|refine cpe cn ?_|exact cSd|apply qb []|refine exr ?_|refine qe ?_)
  refine zw (X:=Nat×qz×List Int) (fun (k,q,ids)=>⟨[(1,.a (jo b)),(2,.a (.pp [qdt l.ents,Iv l.next])),(4,.bx 0 0),(10,.bx 1 0),(11,.tp 2),(12,.i k)],[(0,some (.cells 75 [.a zp,.i 0])),(1,some (.cells 75 [.a (qdt q.ents),.i q.next])),(2,some (.tip 1 3 (ids.map fun x=>Iv x)))],3⟩)
   (fun (k,q,ids)=>k≤b.length∧LB (n+k) q∧LM q∧ids.length≤k∧xj k (b.drop k) q ids=xj 0 b l []) (fun (k,q,ids)=>b.length - k) (0,l,[]) ⟨by omega,hB,hM,by simp,rfl⟩ ?_ ?_
  ·skip
   repeat' (first|apply And.intro|(intro h;try exact cDd)|exact cSd|apply qb []|refine exr ?_|refine qe ?_)
   all_goals first|rfl|(simp;done)
  ·rintro⟨k,q,ids⟩ ⟨hk,hq,hqm,db,a4⟩
   by_cases b8:k<b.length
   ·have hx:b[k]? = some b[k]:=List.getElem?_eq_getElem b8
    have c8:(b.map ji)[k]? = some (ji b[k]):=by rw [List.getElem?_map,hx];rfl
    have hxE:=hE b[k] (List.getElem_mem b8);have hxf:=(qjk (hg b[k] (List.getElem_mem b8))).1;rw [List.drop_eq_getElem_cons b8,xj] at a4;have hidl:(ids.map fun x=>Iv x).length=ids.length:=by simp
    generalize b[k]=x at hx c8 hxE hxf a4;have gc:=fun st=>q83 (n+k) q x st hq hqm hxE.keys (by omega);have mq:=qqm hq (by omega) x;have hlm:=q6q hqm hq.nx0 x;have s8:=fun h=>qpo (l:=q) (x:=x) h;generalize oneF q x=o at gc mq hlm s8 a4;obtain⟨id,e,q'⟩:=o;dsimp only at gc mq hlm s8 a4;by_cases p4:e = .no
    ·subst p4
     rw [if_pos rfl] at a4;by_cases h0:0<id
     ·rw [if_pos h0] at a4
      apply qd [];repeat' (first|apply And.intro|(intro h;try exact cDd)|(refine Exists.intro (k) ⟨by omega,_,c8,?_⟩)|exact⟨Tryz.call97⟩|refine cpe gc ?_|(refine Exists.intro (k+1,q',ids++[id]) ⟨⟨by omega,mq,hlm,by simp;omega,a4⟩,by simp only;omega,?_⟩)|exact cSd|apply qb []|refine exr ?_|refine qe ?_)
      all_goals first|(simp;done)|(simp;omega)
     ·rw [if_neg h0] at a4
      apply qd [];repeat' (first|apply And.intro|(intro h;try exact cDd)|(refine Exists.intro (k) ⟨by omega,_,c8,?_⟩)|exact⟨Tryz.call97⟩|refine cpe gc ?_|(refine Exists.intro (k+1,q',ids) ⟨⟨by omega,mq,hlm,by first|omega|(simp only;omega),a4⟩,by simp only;omega,?_⟩)|exact cSd|apply qb []|refine exr ?_|refine qe ?_)
      all_goals first|(simp;done)|(simp;omega)
    ·rw [if_neg p4] at a4
     rw [← a4];have s8:=s8 p4
     have hA:doR l (ErrV.at' (↑k) e.code,q,ids) = .tu [ve l,yf [],Iv k,Iv e.code]:=by
      unfold doR;rw [if_neg (by simp)]
      try rfl
     rw [hA];generalize ErrV.code e=c at gc s8;apply qd [];repeat' (first|apply And.intro|(intro h;try exact cDd)|(refine Exists.intro (k) ⟨by omega,_,c8,?_⟩)|exact⟨Tryz.call97⟩|refine cpe gc ?_|exact cSd|apply qb []|refine exr ?_|refine qe ?_)
   ·have b8:k=b.length:=by omega
    subst b8;rw [List.drop_length,xj] at a4;rw [← a4];unfold doR;rw [if_pos rfl];apply qd [];repeat' (first|apply And.intro|(intro h;try exact cDd)|exact cSd|apply qb []|refine exr ?_|refine qe ?_)
 ·obtain⟨p,m,hp,hm,h0⟩:=zhh b
  have hz:m≠0:=fun h=>he (h0.1 h);rw [if_neg he];unfold doR;simp only;rw [if_neg he];rw [hp,hm] at cn ⊢;apply qd [];repeat' (first|apply And.intro|(intro h;try exact cDd)|exact⟨Tryz.call96⟩|refine cpe cn ?_|exact cSd|apply qb []|refine exr ?_|refine qe ?_)
end Go.Proofs.YtneejjefekdgjaaGreatDoor
namespace Go.Pl
open Go Go.Proofs Go.Proofs.YtneejjefekdgjaaGreatDoor
theorem qu7 (x:ze) (r:List ze):ko (x::r)=x.raw++ko r:=by simp [ko]
theorem zff {its:List ze} {x:ze} (h:x∈its):x.raw.length≤(ko its).length:=by
 induction its with
 |nil=>simp at h
 |cons y r ih=>
  rw [qu7,List.length_append];rcases List.mem_cons.1 h with rfl|h
  ·omega
  ·have:=ih h
   omega
structure PR (m:Nat) (p:PSt):Prop where
 tot:(ko p.items).length+(zi p.block).length≤m
 fl:∀ x∈p.items,x.fields.length<900000
theorem qo3 {m:Nat} {p:PSt} (h:PR m p):PR m (jz p).2:=by
 unfold jz;split
 ·exact h
 ·split
  ·exact h
  ·split
   ·exact h
   ·exact⟨h.tot,h.fl⟩
theorem zab {m:Nat} {p:PSt} (h:PR m p) (hf:p.fields.length<900000):PR m (yl p):=by
 have ht:=h.tot;unfold yl;split
 ·exact⟨by simp only [zi,List.flatMap_nil,List.length_nil];omega,h.fl⟩
 ·refine⟨?_,fun x hx=>?_⟩
  ·simp only [qb6,qc1,List.length_append]
   simp only [zi,List.flatMap_nil,List.length_nil] at ht ⊢;omega
  ·simp only [List.mem_append,List.mem_singleton] at hx
   rcases hx with hx|rfl
   ·exact h.fl x hx
   ·exact hf
theorem qwm {m n:Nat} {p:PSt} (h:PR m p) (hB:PB n p) (hs:n+1<900000):PR m (endP p).2:=by
 unfold endP;split
 ·exact h
 ·have:=(qh9 hB hs).fields
  exact zab (qo3 h) (by omega)
theorem q9p {m n:Nat} {p:PSt} {no:Int} {text:qa} {ended:Bool} {kind:Int} (h:PR m p) (hB:PB n p) (hs:n+1<900000):PR m (ju p no text ended kind).2:=by
 unfold ju;split
 ·split
  ·exact h
  ·split
   ·exact⟨h.tot,h.fl⟩
   ·exact qo3 ⟨h.tot,h.fl⟩
 ·split
  ·exact qwm h hB hs
  ·exact qo3 h
theorem y7 (a b:List qa):zi (a++b)=zi a++zi b:=by simp [zi]
theorem zf4 {m n:Nat} {p:PSt} {no:Int} {text:qa} {ended:Bool} (h:PR m p) (hB:PB n p) (hs:n+1<900000):PR (m+text.length+1) (wz p no text ended).2:=by
 have more:∀ {q:PSt},PR m q→PR (m+text.length+1) q:=fun h=>⟨by have:=h.tot;omega,h.fl⟩;have h2:PR m (ju p no text ended (qv text)).2:=q9p h hB hs;have ht:=h2.tot;unfold wz;split
 ·exact more h
 ·split
  ·exact more h
  ·split
   ·refine⟨?_,fun x hx=>?_⟩
    ·simp only [qb6,qc1,List.length_append,List.length_cons,List.length_nil]
     omega
    ·simp only [List.mem_append,List.mem_singleton] at hx
     rcases hx with hx|rfl
     ·exact h2.fl x hx
     ·simp
   ·split
    ·refine⟨?_,h2.fl⟩
     simp only [kv,y7,List.length_append];simp only [zi,List.flatMap_cons,List.flatMap_nil,List.length_append,List.length_cons,List.length_nil] at ht ⊢;omega
    ·refine⟨?_,h2.fl⟩
     simp only [y7,List.length_append];simp only [zi,List.flatMap_cons,List.flatMap_nil,List.length_append,List.length_cons,List.length_nil] at ht ⊢;omega
theorem zin:∀ (n:Nat) (rest:qa) (k m:Nat) (p:PSt),rest.length≤n→PB (4 * k) p→PR m p→k+rest.length≤60000→PR (m+2 * rest.length) (runL k (zn rest) p).2:=by
 intro n
 induction n with
 |zero=>
  intro rest k m p hr hB hR hk;obtain rfl:rest=[]:=List.eq_nil_of_length_eq_zero (by omega);rw [vi,runL]
  exact qwm hR hB (by omega)
 |succ n ih=>
  intro rest k m p hr hB hR hk;by_cases a6:rest=[]
  ·subst a6
   rw [vi,runL];exact qwm hR hB (by omega)
  ·have hu:=kz 10 rest
   have bd:=va 10 rest;have sc:0<rest.length:=List.length_pos_iff.2 a6;rw [wq a6];simp only [runL];have dn:=qs2 (no:=k) (text:=upto 10 rest) (ended:=decide (10∈rest)) hB (by omega) (by omega);have gr:=zf4 (no:=k) (text:=upto 10 rest) (ended:=decide (10∈rest)) hR hB (by omega);split
   ·exact⟨by have:=hR.tot;simp only;omega,hR.fl⟩
   ·have:=ih (past 10 rest) (k+1) _ _ (by omega) dn gr (by omega)
    exact⟨by have:=this.tot;omega,this.fl⟩
theorem zhv (text:qa):(ko (itsE text)).length≤120000∧∀ x∈itsE text,x.fields.length<900000:=by
 unfold itsE;split
 ·simp [ko]
 ·have h:=zin text.length text 0 0 p0 (Nat.le_refl _) q8r ⟨by simp [p0,ko,zi],by simp [p0]⟩ (by omega)
  unfold ja;split
  ·simp [ko]
  ·have:=h.tot
   exact⟨by simp only;omega,h.fl⟩
def LI (l:qz):Prop:=∀ e∈l.ents,e.x.raw.length≤1000000∧e.x.fields.length<900000
theorem zbe:∀ (its:List ze) (l:qz),LI l→(∀ x∈its,x.raw.length≤1000000∧x.fields.length<900000)→LI (its.foldl xl l)
 | [],l,h,_=>h
 |x::r,l,h,hx=>by
  rw [List.foldl_cons];refine zbe r _ ?_ fun y hy=>hx y (by simp [hy]);have h1:=hx x (by simp);unfold xl;split
  ·intro e he
   simp only [List.mem_append,List.mem_singleton] at he;rcases he with he|rfl
   ·exact h e he
   ·exact h1
  ·intro e he
   simp only [List.mem_append,List.mem_singleton] at he;rcases he with he|rfl
   ·exact h e he
   ·exact h1
theorem zj4 (text:qa):LI (ofF (itsE text)):=by
 obtain⟨h1,h2⟩:=zhv text;refine zbe _ _ (by simp [LI]) fun x hx=>⟨?_,h2 x hx⟩;have:=zff hx;omega
theorem qyu (fs:List Fld):(yx fs).raw.length≤1000000∧(yx fs).fields.length<900000:=by
 unfold yx;split
 ·rename_i h
  obtain⟨_,g1,g2⟩:=qei h;have:=qfz fs g2;exact⟨by simp only;omega,by simp only;omega⟩
 ·exact⟨by simp,by simp⟩
theorem zfq {l:qz} (h:LI l) (id:Int) (fs:List Fld):LI (y8 l id fs).2:=by
 unfold y8;split
 ·exact h
 ·split
  ·unfold qlf
   split
   ·intro y hy
    rcases List.mem_or_eq_of_mem_set hy with hy|rfl
    ·exact h y hy
    ·exact qyu fs
   ·exact h
  ·exact h
theorem zhf {l:qz} (h:LI l) (id:Int):LI (delF l id).2:=by
 unfold delF;split
 ·exact h
 ·intro y hy
  simp only [delL,List.mem_append] at hy;rcases hy with hy|hy
  ·exact h y (List.mem_of_mem_take hy)
  ·exact h y (List.mem_of_mem_drop hy)
theorem zhs {l:qz} (h:LI l) (id:Int) (fs:List Fld):LI (insF l id fs).2.2:=by
 unfold insF;split
 ·exact h
 ·split
  ·split
   ·exact h
   ·intro y hy
    simp only [insL,List.mem_append,List.mem_cons] at hy;rcases hy with hy|rfl|hy
    ·exact h y (List.mem_of_mem_take hy)
    ·exact qyu fs
    ·exact h y (List.mem_of_mem_drop hy)
  ·exact h
theorem qtk:∀ (its:List ze) (b:Bool),(∀ x∈its,x.raw.length≤1000000)→(ko (kl b its)).length≤1000001 * its.length
 | [],b,h=>by simp [kl,ko]
 |x::r,b,h=>by
  have ih:=qtk r (decide (x.kind≠1)) fun y hy=>h y (by simp [hy]);have hx:=h x (by simp);rw [kl,qb6,List.length_append];split
  ·rw [qu7,qc1]
   simp only [List.length_append,List.length_cons,List.length_nil];omega
  ·rw [qc1]
   simp only [List.length_cons];omega
theorem q3x {n:Nat} {l:qz} (hB:LB n l) (h:LI l):(qav l).length≤1000000000000:=by
 have h1:=qtk (zv l) false fun x hx=>by
  obtain⟨e,he,rfl⟩:=List.mem_map.1 hx;exact (h e he).1
 have h2:=hB.len;have h3:=hB.small;unfold qav yt;have:(zv l).length=l.ents.length:=by simp [zv]
 omega
end Go.Pl
namespace Go.Proofs.YtneejjefekdgjaaGreatDoor
open Go Go.Av Go.RowKit Go.Proofs Go.Pl
theorem zib {l:qz} (h:LI l) (x:qr):LI (oneF l x).2.2:=by
 unfold oneF;split
 ·exact zfq h _ _
 ·split
  ·exact zhf h _
  ·exact zhs h _ _
theorem qx1:∀ (b:List qr) (k:Nat) (l:qz) (ids:List Int),LI l→LI (xj k b l ids).2.1
 | [],k,l,ids,h=>h
 |x::r,k,l,ids,h=>by
  unfold xj;split
  ·exact qx1 r (k+1) _ _ (zib h x)
  ·exact h
theorem zjj {l:qz} (h:LI l) (b:List qr):LI (doF l b).2.1:=by
 unfold doF;split
 ·exact qx1 b 0 l [] h
 ·exact h
theorem zhu {n:Nat} {l:qz} (hB:LB n l) (h:LI l):ItsB (zv l):=by
 have h1:=hB.len;have h2:=hB.small;refine⟨by simp [zv];omega,fun x hx=>?_⟩;obtain⟨e,he,rfl⟩:=List.mem_map.1 hx;have:=(h e he).2;omega
theorem q5b (its:List ze) (st:List AObj) (hl:its.length<1000000000) (hr:(ko its).length≤1000000000000):qo E 187 [j5 its] st fun r st'=>r=Sv (ko its)∧st'=st:=by
 refine zg [.a (j5 its)] (qq _) Tryz.func187 rfl rfl (fun _=>rfl) rfl fun S0=>?_;have lj:(its.map jh).length=its.length:=by simp
 apply qd [];repeat' (first|apply And.intro|(intro h;try exact cDd)|exact cSd|apply qb []|refine exr ?_|refine qe ?_)
 refine zw (X:=Nat) (fun k=>⟨[(0,.a (j5 its)),(3,.s (ko (its.take k))),(4,.i k)],[],0⟩) (fun k=>k≤its.length) (fun k=>its.length - k) 0 (by omega) ?_ ?_
 ·skip
  repeat' (first|apply And.intro|(intro h;try exact cDd)|exact cSd|apply qb []|refine exr ?_|refine qe ?_)
  all_goals (simp [ko];done)
 ·rintro k hk
  by_cases b8:k<its.length
  ·have hx:its[k]? = some its[k]:=List.getElem?_eq_getElem b8
   have c8:(its.map jh)[k]? = some (jh its[k]):=by rw [List.getElem?_map,hx];rfl
   have d2:its.take (k+1)=its.take k++[its[k]]:=by rw [List.take_add_one,hx];rfl
   have t7:(ko (its.take k)).length+its[k].raw.length≤1000000000000:=by
    have h1:ko its=ko (its.take (k+1))++ko (its.drop (k+1)):=by rw [← qb6,List.take_append_drop]
    rw [h1,d2,qb6,qc1] at hr;simp only [List.length_append] at hr;omega
   generalize its[k]=x at hx c8 d2 t7;apply qd [];repeat' (first|apply And.intro|(intro h;try exact cDd)|(refine Exists.intro (k) ⟨by omega,_,c8,?_⟩)|(refine Exists.intro (k+1) ⟨by omega,by omega,?_⟩)|exact cSd|apply qb []|refine exr ?_|refine qe ?_)
   all_goals first|(rw [d2,qb6,qc1];done)|omega
  ·have b8:k=its.length:=by omega
   subst b8;rw [List.take_length];apply qd [];repeat' (first|apply And.intro|(intro h;try exact cDd)|exact cSd|apply qb []|refine exr ?_|refine qe ?_)
theorem q25 (its:List ze) (st:List AObj) (hl:its.length≤1000000):qo E 188 [j5 its] st fun r st'=>r=j5 (yt its)∧st'=st:=by
 refine zg [.a (j5 its)] (qak _) Tryz.func188 rfl rfl (fun _=>rfl) rfl fun S0=>?_;have lj:(its.map jh).length=its.length:=by simp
 apply qd [];repeat' (first|apply And.intro|(intro h;try exact cDd)|exact cSd|apply qb []|refine exr ?_|refine qe ?_)
 refine zw (X:=Nat×List ze) (fun (k,out)=>⟨[(0,.a (j5 its)),(3,.tp 0),(4,.i k)],[(0,some (.tip 3 52 (out.map jh)))],1⟩)
  (fun (k,out)=>k≤its.length∧out.length≤2 * k∧∃ prev,(prev=true↔∃ y,0<k∧its[k - 1]? = some y∧y.kind≠1)∧out++kl prev (its.drop k)=yt its) (fun (k,out)=>its.length - k) (0,[]) ⟨by omega,by simp,false,by simp,rfl⟩ ?_ ?_
 ·skip
  repeat' (first|apply And.intro|(intro h;try exact cDd)|exact cSd|apply qb []|refine exr ?_|refine qe ?_)
  all_goals first|rfl|(simp;done)
 ·rintro⟨k,out⟩ ⟨hk,fm,prev,hpv,a4⟩
  by_cases b8:k<its.length
  ·have hx:its[k]? = some its[k]:=List.getElem?_eq_getElem b8
   have c8:(its.map jh)[k]? = some (jh its[k]):=by rw [List.getElem?_map,hx];rfl
   rw [List.drop_eq_getElem_cons b8,kl] at a4;generalize its[k]=x at hx c8 a4;have e8:(out.map jh).length=out.length:=by simp
   have cr:(decide (x.kind≠1)=true↔∃ y,0<k+1∧its[k+1 - 1]? = some y∧y.kind≠1):=by
    rw [decide_eq_true_iff,Nat.add_sub_cancel,hx];constructor
    ·intro h
     exact⟨x,by omega,rfl,h⟩
    ·rintro⟨y,_,h1,h2⟩
     simp only [Option.some.injEq] at h1;rw [h1];exact h2
   by_cases hk0:k=0
   ·have hp:¬ (prev=true):=fun h=>by
     obtain⟨_,h,_⟩:=hpv.1 h;omega
    rw [if_neg (fun h=>hp h.1)] at a4;apply qd [];repeat' (first|apply And.intro|(intro h;try exact cDd)|(refine Exists.intro (k) ⟨by omega,_,c8,?_⟩)|(refine Exists.intro (k+1,out++[x]) ⟨⟨by omega,by simp;omega,_,cr,by rw [← a4];simp⟩,by simp only;omega,?_⟩)|exact cSd|apply qb []|refine exr ?_|refine qe ?_)
    all_goals first|(simp [SV.evs,SV.ev];done)|(simp [SV.evs];omega)
   ·obtain⟨y,hy⟩:∃ y,its[k - 1]? = some y:=⟨_,List.getElem?_eq_getElem (by omega:k - 1<its.length)⟩
    have hym:(its.map jh)[k - 1]? = some (jh y):=by rw [List.getElem?_map,hy];rfl
    have hpy:(prev=true↔y.kind≠1):=by
     rw [hpv];constructor
     ·rintro⟨z,_,h1,h2⟩
      rw [hy] at h1;simp only [Option.some.injEq] at h1;rw [h1];exact h2
     ·exact fun h=>⟨y,by omega,hy,h⟩
    by_cases hb:x.kind≠1∧y.kind≠1
    ·rw [if_pos ⟨hpy.2 hb.2,hb.1⟩] at a4
     obtain⟨i5,i6⟩:=hb;apply qd [];repeat' (first|apply And.intro|(intro h;try exact cDd)|(refine Exists.intro (k - 1) ⟨by omega,_,hym,?_⟩)|(refine Exists.intro (k) ⟨by omega,_,c8,?_⟩)|(refine Exists.intro (k+1,out++[⟨1,[10],[]⟩,x]) ⟨⟨by omega,by simp;omega,_,cr,by rw [← a4];simp⟩,by simp only;omega,?_⟩)|exact cSd|apply qb []|refine exr ?_|refine qe ?_)
     all_goals first|(simp [SV.evs,SV.ev];done)|(simp [SV.evs];omega)
    ·rw [if_neg (fun h=>hb ⟨h.2,hpy.1 h.1⟩)] at a4
     apply qd [];repeat' (first|apply And.intro|(intro h;try exact cDd)|(refine Exists.intro (k - 1) ⟨by omega,_,hym,?_⟩)|(refine Exists.intro (k) ⟨by omega,_,c8,?_⟩)|(refine Exists.intro (k+1,out++[x]) ⟨⟨by omega,by simp;omega,_,cr,by rw [← a4];simp⟩,by simp only;omega,?_⟩)|exact absurd ⟨by assumption,by assumption⟩ hb|exact cSd|apply qb []|refine exr ?_|refine qe ?_)
     all_goals first|(simp [SV.evs,SV.ev];done)|(simp [SV.evs];omega)
  ·have b8:k=its.length:=by omega
   subst b8;rw [List.drop_length,kl,List.append_nil] at a4;rw [← a4];apply qd [];repeat' (first|apply And.intro|(intro h;try exact cDd)|exact cSd|apply qb []|refine exr ?_|refine qe ?_)
theorem qzt (its:List ze) (st:List AObj) (hl:its.length≤1000000) (hr:(ko (yt its)).length≤1000000000000):qo E 112 [j5 its] st fun r st'=>r=Sv (ko (yt its))∧st'=st:=by
 refine zg [.a (j5 its)] (qq _) Tryz.func112 rfl rfl (fun _=>rfl) rfl fun S0=>?_;have h1:=fun st=>q25 its st hl;have sm:=qoj false its;have h2:=fun st=>q5b (yt its) st (by unfold yt;omega) hr;apply qd [];repeat' (first|apply And.intro|(intro h;try exact cDd)|exact⟨Tryz.call188⟩|refine cpe h1 ?_|exact⟨Tryz.call187⟩|refine cpe h2 ?_|exact cSd|apply qb []|refine exr ?_|refine qe ?_)
theorem q3f (l:qz) (st:List AObj) (hl:l.ents.length<1000000):qo E 113 [ve l] st fun r st'=>r=j5 (zv l)∧st'=st:=by
 refine zg [.a (ve l)] (qak _) Tryz.func113 rfl rfl (fun _=>rfl) rfl fun S0=>?_;have lj:(l.ents.map entA).length=l.ents.length:=by simp
 have db:(zv l).length=l.ents.length:=by simp [zv]
 apply qd [];repeat' (first|apply And.intro|(intro h;try exact cDd)|exact cSd|apply qb []|refine exr ?_|refine qe ?_)
 refine zw (X:=Nat) (fun k=>⟨[(1,.a (.pp [qdt l.ents,Iv l.next])),(3,.tp 0),(4,.i k)],[(0,some (.tip 3 52 (((zv l).take k).map jh)))],1⟩)
  (fun k=>k≤l.ents.length) (fun k=>l.ents.length - k) 0 (by omega) ?_ ?_
 ·skip
  repeat' (first|apply And.intro|(intro h;try exact cDd)|exact cSd|apply qb []|refine exr ?_|refine qe ?_)
  all_goals first|rfl|(simp;done)
 ·rintro k hk
  by_cases b8:k<l.ents.length
  ·have hx:l.ents[k]? = some l.ents[k]:=List.getElem?_eq_getElem b8
   have c8:(l.ents.map entA)[k]? = some (entA l.ents[k]):=by rw [List.getElem?_map,hx];rfl
   have hxi:(zv l)[k]? = some l.ents[k].x:=by unfold zv;rw [List.getElem?_map,hx];rfl
   have d2:(zv l).take (k+1)=(zv l).take k++[l.ents[k].x]:=by rw [List.take_add_one,hxi];rfl
   have mz:(((zv l).take k).map jh).length≤k:=by simp;omega
   generalize l.ents[k]=e at hx c8 hxi d2;apply qd [];repeat' (first|apply And.intro|(intro h;try exact cDd)|(refine Exists.intro (k) ⟨by omega,_,c8,?_⟩)|(refine Exists.intro (k+1) ⟨by omega,by omega,?_⟩)|exact cSd|apply qb []|refine exr ?_|refine qe ?_)
   all_goals first|(rw [d2];simp;done)|(simp [SV.evs];omega)
  ·have b8:k=l.ents.length:=by omega
   subst b8;have e:(zv l).take l.ents.length=zv l:=List.take_of_length_le (by omega);rw [e];apply qd [];repeat' (first|apply And.intro|(intro h;try exact cDd)|exact cSd|apply qb []|refine exr ?_|refine qe ?_)
theorem q5i (l:qz) (st:List AObj) (hl:l.ents.length<1000000) (hr:(qav l).length≤1000000000000):qo E 58 [ve l] st fun r st'=>r=Sv (qav l)∧st'=st:=by
 refine zg [.a (ve l)] (qq _) Tryz.func58 rfl rfl (fun _=>rfl) rfl fun S0=>?_;have h1:=fun st=>q3f l st hl;have h2:=fun st=>qzt (zv l) st (by simp [zv];omega) hr;apply qd [];repeat' (first|apply And.intro|(intro h;try exact cDd)|exact⟨Tryz.call113⟩|refine cpe h1 ?_|exact⟨Tryz.call112⟩|refine cpe h2 ?_|exact cSd|apply qb []|refine exr ?_|refine qe ?_)
end Go.Proofs.YtneejjefekdgjaaGreatDoor
