/- Contracts and plain facts that the closing text leans on (part 8). No condition of their own beyond those that each states. -/
import Derived.Test.YtneejjefekdgjaaGreatDoorK7
set_option maxRecDepth 100000
set_option linter.unusedVariables false
set_option linter.unusedSimpArgs false
namespace Go.Proofs.YtneejjefekdgjaaGreatDoor
open Go Go.Av Go.RowKit Go.Proofs Go.Pl
theorem za2 (e:EntV) (st:List AObj) (c:AV) (hnr:qc3 c):qp E 231 [c,Iv 0,.sl 4 [entA e] none] st fun r st'=>OwnR 4 152 [entA e] st c r st':=by
 refine qt Tryz.func231 rfl (Nat.le_of_ble_eq_true rfl) ?_
 rw [List.append_nil]
 repeat' (first|(apply zu (n:=1);(iterate 4 exact rfl))|(refine qvg (sz:=4) rfl hnr.val rfl rfl ?_ ?_;exact⟨_,rfl⟩)|(apply zu;exact rfl;exact hnr.len;exact rfl;exact rfl)|(refine qhl (sz:=4) (ys:=[entA e]) (bytes:=56) hnr.val (fun _ _ h=>h) rfl rfl ⟨⟨_,_,rfl,rfl,rfl,rfl,rfl⟩⟩ rfl (by simp) (by simp [maxLen]) (by simp) fun cap pad q1 q2 q3 q4=>?_)|apply qr|apply ql|apply qk|apply qo|apply qm|(apply qw;(iterate 3 exact rfl))|(apply qc;exact rfl;apply wa;exact cAo)|(apply qc;exact rfl;apply wq;exact cAo)|apply q8|apply zb)
 refine qq rfl (zf rfl) ?_
 show OwnR 4 152 _ st c (.os st.length 0 0 _ (cap+1)) (st++[_])
 refine⟨.inr ⟨_,0,cap,pad,rfl,qbd,q1,q2,q3,q4⟩,qhf,fun j hj _=>List.getElem?_append_left hj,fun o ho=>?_⟩
 simp only [z6,Option.some.injEq] at ho
 left
 omega
theorem za3 (es:List EntV) (e:EntV) (hl:es.length<1000000) (st:List AObj) (o ver cap:Nat) (pad:List AV) (e2:st[o]? = some (.cells ver 152 (flat (es.map entA)++pad))) (e3:(flat (es.map entA)++pad).length=(cap+1) * 4) (e5:es.length≤cap+1) (e6:cap+1≤maxLen) :
  qp E 231 [.os o ver 0 es.length (cap+1),Iv es.length,.sl 4 [entA e] none] st fun r st'=>OwnR 4 152 (es.map entA++[entA e]) st (.os o ver 0 es.length (cap+1)) r st':=by
 have hml:(es.map entA).length=es.length:=by simp
 have hlt:=lt_of_getElem? e2
 have hV0:Vec 4 152 o (es.map entA) (.os o ver 0 es.length (cap+1)) (.cells ver 152 (flat (es.map entA)++pad)):=by
  have:=Vec.os (o:=o) (T:=152) (xs:=es.map entA) ver (cap+1) pad e3 (qhn _) (by omega) e6
  rw [hml] at this
  exact this
 refine qt Tryz.func231 rfl (Nat.le_of_ble_eq_true rfl) ?_
 rw [List.append_nil]
 repeat' (first|(apply zu (n:=1);(iterate 4 exact rfl))|(refine js (sz:=4) (i:=es.length) (j:=es.length) (m:=cap+1) rfl rfl rfl ?_ ?_ ?_ ?_ ?_ ?_ ?_;exact⟨_,rfl⟩;exact⟨rfl,rfl⟩;exact rfl;omega;omega;omega)|(refine qty (sz:=4) (bytes:=56) (o:=o) (xs:=es.map entA) (ys:=[entA e]) rfl (fun _ _ h=>h) hV0 e2 rfl rfl ⟨⟨_,_,rfl,rfl,rfl,rfl,rfl⟩⟩ rfl (by simp [maxLen];omega) (by simp;omega) fun a' ob' hV=>?_)|apply qr|apply ql|apply qk|apply qo|apply qm|(apply qw;(iterate 3 exact rfl))|(apply qc;exact rfl;apply wa;exact cAo)|(apply qc;exact rfl;apply wq;exact cAo)|(apply zu;(iterate 4 exact rfl))|apply q8|apply zb)
 rcases q51 hV with⟨q,_,_⟩ | ⟨ver',cap',pad',rfl,rfl,q1,q2,q3,q4⟩
 ·simp at q
 ·obtain⟨cap',rfl⟩:∃ c,cap'=c+1:=⟨cap' - 1,by simp at q3;omega⟩
  refine qq rfl (zf rfl) ?_
  show OwnR 4 152 _ st _ (.os o ver' 0 _ (cap'+1)) (st.set o _)
  exact⟨.inr ⟨o,ver',cap',pad',rfl,xg e2,q1,q2,q3,q4⟩,by simp,fun j hj hne=>List.getElem?_set_ne fun e=>hne (by rw [e];rfl),fun o' ho'=>.inr ho'⟩
theorem qxa (w:World) (a b:Addr) (la ca lb cb:Nat) (tA tB:TypeId) (kA kB:Nat) (h1:a.block≠b.block) (h2:w.shape? a.block=some (tA,kA)) (h3:w.shape? b.block=some (tB,kB)) (h4:kA≠0) (h5:w.frozen? b=false) (h6:w.frozen? { block:=b.block,off:=kB }=false) :
  (callFunc 287 #[.slice (some a) la ca,.slice (some b) lb cb]).run E.P w = .ok (.value (.bool false)) w:=by
 have hz:∀ w,(Go.sizeOf 152).run E.P w = .ok 4 w:=fun w=>(xh (agg:=true) rfl w).1
 rw [run_callFunc_extern (P:=E.P) Tryz.func287 (by kernel_rfl) (by kernel_rfl) (by kernel_rfl) (e:=Extern.SlicesOverlaps.overlaps #[154,154] #[4]) (by kernel_rfl),
  qot w 154 4 152 rfl 4 hz a b la ca lb cb h1 tA tB kA kB h2 h3 h4 h5 h6]
 rfl
structure InsB (es:List EntV) (e:EntV) (i cap:Nat) (pad:List AV):Prop where
 t4:(flat ((es.take i).map entA)).length=i * 4
 d4:(flat ((es.drop i).map entA)).length=(es.length - i) * 4
 split:flat (es.map entA)++pad=flat ((es.take i).map entA)++(flat ((es.drop i).map entA)++pad)
 take:(flat (es.map entA)++pad).take (i * 4)=flat ((es.take i).map entA)
 drop:((flat (es.map entA)++pad).drop (0+i * 4)).take ((es.length - i) * 4)=flat ((es.drop i).map entA)
 new:flat ((es.take i++e::es.drop i).map entA)=flat ((es.take i).map entA)++flat [entA e]++flat ((es.drop i).map entA)
 nl:(es.take i++e::es.drop i).length=es.length+1
 src:∀ o ver L c' (S:List AObj),(flat (es.map entA)++pad).length=(cap+1) * 4→es.length≤cap+1→S[o]? = some (.cells ver 152 (flat (es.map entA)++pad))→SrcA S 4 (.os o ver (0+i * 4) L c') L (es.length - i) (flat ((es.drop i).map entA))
theorem insB (es:List EntV) (e:EntV) (i cap:Nat) (pad:List AV) (hi:i<es.length):InsB es e i cap pad:=by
 have ht4:(flat ((es.take i).map entA)).length=i * 4:=by rw [qdo,List.length_take,Nat.min_eq_left (by omega)]
 have hd4:(flat ((es.drop i).map entA)).length=(es.length - i) * 4:=by rw [qdo,List.length_drop]
 have hsplit:flat (es.map entA)++pad=flat ((es.take i).map entA)++(flat ((es.drop i).map entA)++pad):=by
  rw [← List.append_assoc,← qgi,List.take_append_drop]
 have hdrop:((flat (es.map entA)++pad).drop (0+i * 4)).take ((es.length - i) * 4)=flat ((es.drop i).map entA):=by rw [Nat.zero_add,hsplit,← ht4,List.drop_left,← hd4,List.take_left]
 refine⟨ht4,hd4,hsplit,by rw [hsplit,← ht4,List.take_left],hdrop,?_,by simp;omega,fun o ver L c' S e3 e5 hS=>?_⟩
 ·rw [qgi]
  simp [flat]
 ·have:=SrcA.os (st:=S) (sz:=4) o ver (0+i * 4) L c' (es.length - i) _ _ hS (by rw [e3];omega) (by rw [hdrop];exact qff fun _=>rfl)
  rw [hdrop] at this
  exact this
set_option maxHeartbeats 4000000 in
theorem za5 (es:List EntV) (e:EntV) (i:Nat) (hi:i<es.length) (hl:es.length<1000000) (st:List AObj) (o ver cap:Nat) (pad:List AV) (e2:st[o]? = some (.cells ver 152 (flat (es.map entA)++pad))) (e3:(flat (es.map entA)++pad).length=(cap+1) * 4) (e5:es.length+1≤cap+1) (e6:cap+1≤maxLen) :
  qp E 231 [.os o ver 0 es.length (cap+1),Iv i,.sl 4 [entA e] none] st fun r st'=>OwnR 4 152 ((es.take i++e::es.drop i).map entA) st (.os o ver 0 es.length (cap+1)) r st':=by
 have hI:=insB es e i cap pad hi
 have hlt:=lt_of_getElem? e2
 have hfl1:(flat [entA e]).length=4:=rfl
 have ht4:=hI.t4
 have hd4:=hI.d4
 have hi1:(if cap+1=i then 0 else 0+i * 4)=0+i * 4:=if_neg (by omega)
 have hi2:(if cap+1=i+1 then 0 else 0+(i+1) * 4)=(i+1) * 4:=by rw [if_neg (by omega)];omega
 obtain⟨B1,hB1⟩:∃ B1,(flat ((es.drop i).map entA)++pad).drop 4=B1:=⟨_,rfl⟩
 obtain⟨A1,hA1⟩:∃ A1,(flat ((es.drop i).map entA)++pad).take 4=A1:=⟨_,rfl⟩
 have hA1l:A1.length=4:=by
  rw [← hA1,List.length_take,List.length_append,hd4]
  omega
 obtain⟨X1,hX1⟩:∃ X1,flat ((es.take i).map entA)++A1++flat ((es.drop i).map entA)++B1.drop ((es.length - i) * 4)=X1:=⟨_,rfl⟩
 have hsp1:jz (flat (es.map entA)++pad) ((i+1) * 4) (flat ((es.drop i).map entA))=X1:=by
  have e1:flat (es.map entA)++pad=(flat ((es.take i).map entA)++A1)++B1:=by rw [hI.split,List.append_assoc,← hA1,← hB1,List.take_append_drop]
  rw [e1,qee _ _ _ (by rw [List.length_append,ht4,hA1l];omega),hd4,hX1]
 have hsp2:jz X1 (0+i * 4) (flat [entA e])=flat ((es.take i++e::es.drop i).map entA)++B1.drop ((es.length - i) * 4):=by
  have e1:X1=flat ((es.take i).map entA)++(A1++(flat ((es.drop i).map entA)++B1.drop ((es.length - i) * 4))):=by rw [← hX1];simp
  rw [e1,qee _ _ _ (by rw [ht4];omega),hfl1,List.drop_append_of_le_length (by omega),List.drop_eq_nil_of_le (by omega:A1.length≤4),hI.new]
  simp
 have hsl1:X1.length=(cap+1) * 4:=by
  rw [← hsp1,qha (by rw [e3,hd4];omega),e3]
 have hsl2:(flat ((es.take i++e::es.drop i).map entA)++B1.drop ((es.length - i) * 4)).length=(cap+1) * 4:=by
  rw [← hsp2,qha (by rw [hsl1,hfl1];omega),hsl1]
 have hsrc:=hI.src o ver (es.length+1 - i) (cap+1 - i) st e3 (by omega) e2
 have hnl:=hI.nl
 generalize hXn:flat ((es.take i++e::es.drop i).map entA)++B1.drop ((es.length - i) * 4)=Xn at hsp2 hsl2
 clear hX1 hB1 hA1 hI ht4 hd4
 generalize hdz:flat ((es.drop i).map entA)=dz at hsp1 hsrc
 refine qt Tryz.func231 rfl (Nat.le_of_ble_eq_true rfl) ?_
 rw [List.append_nil]
 generalize flat (es.map entA)++pad=X0 at e2 e3 hsp1
 repeat' (first|apply qr|apply ql|apply qk|apply qo|apply qm)
 refine js (o:=o) (ver:=ver) (off:=0) (len:=es.length) (cap:=cap+1) (sz:=4) (i:=i) (j:=es.length) (m:=cap+1) rfl rfl rfl ?_ ?_ ?_ (by omega) (by omega) (by omega) ?_
 ·exact⟨_,rfl⟩
 ·exact⟨rfl,rfl⟩
 ·exact rfl
 repeat' (first|(apply zu (n:=1);(iterate 4 exact rfl))|apply qr|apply ql|apply qk|apply qo|apply qm|(apply qw;(iterate 3 exact rfl))|(apply qc;exact rfl;apply wq;exact cAo)|(apply zu;(iterate 4 exact rfl))|(apply zp;exact rfl;exact rfl;exact qn (by omega) (by omega))|apply q8)
 refine qpa rfl rfl rfl ?_
 repeat' (first|apply qr|apply ql|apply qk|apply qo|(apply qw;(iterate 3 exact rfl))|(apply qc;exact rfl;apply wq;exact cAo)|(apply zp;exact rfl;exact rfl;exact qn (by omega) (by omega))|apply q8)
 refine js (o:=o) (ver:=ver) (off:=0) (len:=es.length) (cap:=cap+1) (sz:=4) (i:=0) (j:=es.length+1) (m:=cap+1) rfl rfl rfl ?_ ?_ ?_ (by omega) (by omega) (by omega) ?_
 ·exact rfl
 ·exact⟨_,rfl⟩
 ·exact rfl
 repeat' (first|apply qr|apply ql|apply qk|apply qo|apply qm|(apply zp;exact rfl;exact rfl;exact qn (by omega) (by omega)))
 refine js (o:=o) (ver:=ver) (off:=0) (len:=es.length+1) (cap:=cap+1) (sz:=4) (i:=i+1) (j:=es.length+1) (m:=cap+1) rfl rfl rfl ?_ ?_ ?_ (by omega) (by omega) (by omega) ?_
 ·exact⟨_,rfl⟩
 ·exact⟨rfl,rfl⟩
 ·exact rfl
 rw [hi2]
 repeat' (first|(apply w7;first|apply qr|apply ze|apply ql|(apply qc;exact rfl;apply wa;exact cAo)|(apply qc;exact rfl;apply wq;exact cAo)|(apply qc;exact rfl;apply yz;exact cRa)|(apply qc;exact rfl;apply qaa;exact cRa)|(apply qc;exact rfl;apply cd_n <;> intro h)|(apply qc;exact rfl;apply cd_t;exact cRa)|(apply qc;exact rfl;apply cd_f;exact cRa)|(apply qc;exact rfl;apply cd_d <;> intro h)|(apply qc;exact rfl;apply cd_s <;> intro h)|apply q8|apply jq|apply zb)|(apply vh;first|(apply qv;(iterate 4 exact rfl))|(apply zt;(iterate 4 exact rfl)))|(apply xz;first|(apply v7;exact cAo)|(apply kg;exact cAo)|(apply j6;exact cAo)|(apply vz;exact cAo)|(apply vw;exact cRa)|(apply vv;exact cRa)|(apply vk;exact cRa)|(apply kq;exact cRa)|(apply kr <;> intro h)|(apply vr;exact cRa)|(apply wv;exact cRa)|(apply vq;exact cRa)|(apply ke;exact cRa)|(apply jo <;> intro h)|(apply wl <;> intro h))|(apply xy;first|apply yb|(apply xm;(iterate 4 exact rfl))|(apply yt;exact rfl;exact rfl;exact qn (by omega) (by omega))|(apply xo;(iterate 4 exact rfl);exact cAs;exact cAs)|(apply ka;(iterate 5 exact rfl))|(apply vp;exact rfl;exact rfl;exact cOs)|(apply kp;(iterate 3 exact rfl))|(apply j9;(iterate 5 exact rfl))|(apply jb;(iterate 4 exact rfl))|(apply ja;(iterate 3 exact rfl))|(apply yw;(iterate 3 exact rfl);exact cAs)|(apply xx;exact rfl;exact rfl)|(apply wy;exact rfl;exact rfl)|(apply wz;(iterate 3 exact rfl);omega)|(apply we;(iterate 3 exact rfl))|apply w9|apply vu|(apply yj;exact rfl;exact rfl;exact qn (by omega) (by omega))|(apply xw;(iterate 3 exact rfl))|(apply xp;(iterate 3 exact rfl);exact cAs)|(apply xl;(iterate 3 exact rfl);exact cAs)|(apply vf;exact rfl;exact rfl))|(apply vg;first|(apply qw;(iterate 3 exact rfl))|(apply jm;(iterate 3 exact rfl))|(apply jf;exact rfl;exact rfl;exact cOs)|(apply zp;exact rfl;exact rfl;exact qn (by omega) (by omega))|(apply kz;exact rfl;exact rfl;exact qn (by omega) (by omega))|(apply jc;exact rfl;exact rfl)|(apply jd;exact rfl;exact rfl)|(apply z7;exact rfl;exact rfl)|(apply jh;exact rfl;exact rfl)|(apply z4;(iterate 3 exact rfl))|(apply ji;(iterate 3 exact rfl))|(apply ve;exact rfl;exact rfl;(first|exact qi _|exact rfl);first|exact qi _|exact rfl)|(apply vb;exact rfl;exact rfl;(first|exact qi _|exact rfl);first|exact qi _|exact rfl)|(apply wd;exact rfl;exact rfl;(first|exact qi _|exact rfl);first|exact qi _|exact rfl)|(apply vc;(iterate 3 exact rfl))|(apply vd;(iterate 3 exact rfl)))|(apply wh;first|(apply zk;(iterate 3 exact rfl))|(apply jr;(iterate 5 exact rfl))|(apply zn;(iterate 5 exact rfl)))|(apply wi;first|(apply ko;exact rfl)|(apply jv;exact rfl)|(apply jx;exact rfl))|(apply vi;first|(apply vo;(iterate 3 exact rfl);exact cAs)|(apply vn;(iterate 3 exact rfl);exact cAs)|(apply va;(iterate 4 exact rfl);exact cAs;exact cAs)|(apply je;(iterate 4 exact rfl);(first|assumption|omega|exact Nat.succ_le_succ (Nat.zero_le _)|(simp;omega));exact rfl))|(apply wg;first|(apply zx;(iterate 3 exact rfl))|(apply zu;(iterate 4 exact rfl)))|(apply jl;first|(apply q5;(iterate 3 exact rfl))|(apply zg;(iterate 4 exact rfl)))|(apply vj;first|(apply jk;(iterate 11 exact rfl))|(apply zm;(iterate 11 exact rfl)))|(apply w8;first|apply qk|apply qo|apply qm|(apply zj;exact rfl;exact rfl)|(apply qf;exact rfl;apply xq;exact cAo)|(apply qf;exact rfl;apply x3;exact cAo)|(apply qf;exact rfl;apply qal;exact cRa)|(apply qf;exact rfl;apply qad;exact cRa)|(apply qf;exact rfl;apply pk_t;exact cRa)|(apply qf;exact rfl;apply pk_f;exact cRa)|(apply q9;exact rfl;exact rfl)|apply jg|(apply jj;exact rfl;exact rfl)|(apply vl;(iterate 4 exact rfl))|(apply kj;(iterate 3 exact rfl))|(apply j7;(iterate 3 exact rfl);exact cAs)|(apply ju;(iterate 3 exact rfl))|(apply zr;(iterate 9 exact rfl))|(apply zo;exact rfl;exact rfl)|(apply kf;(iterate 4 exact rfl);(first|assumption|omega|decide);exact rfl)|(apply z8;(iterate 4 exact rfl);first|assumption|omega|decide)))
 refine qt0 (xs:=[entA e]) (o:=o) (ver:=ver) rfl rfl e2 (by simp [flat,AV.cells]) qxa ?_
 repeat' (first|apply qr|apply qk|(apply jv;exact rfl)|(apply qc;exact rfl;apply yz;exact cRa))
 refine qsl [(0,.os o ver 0 (es.length+1) (cap+1)),(1,Iv i),(2,.sl 4 [entA e] none),(7,Iv 1)] st [] ⟨rfl,rfl,rfl,rfl,trivial⟩ rfl rfl fun t=>?_
 refine qrh (fun s=>StA [(0,.os o ver 0 (es.length+1) (cap+1)),(1,Iv i),(2,.sl 4 [entA e] none)] (st.set o (.cells ver 152 X1)) [] s) ?_ ?_
 ·refine qid rfl rfl ?_
  (apply qaz 0;exact rfl;kernel_rfl;kernel_rfl;kernel_rfl;exact rfl;exact qbc)
  (apply qaz 1;exact rfl;kernel_rfl;kernel_rfl;kernel_rfl;exact rfl;exact qbc)
  (apply qaz 2;exact rfl;kernel_rfl;kernel_rfl;kernel_rfl;exact rfl;exact qbc)
  (apply qaz 5;exact rfl;kernel_rfl;kernel_rfl;kernel_rfl;exact rfl;exact qbc)
  (apply qaz 6;exact rfl;kernel_rfl;kernel_rfl;kernel_rfl;exact rfl;exact qbc)
  refine yx [3,7] (by kernel_rfl) rfl ⟨⟨_,rfl,?_⟩,⟨_,rfl,?_⟩,trivial⟩
  ·(apply zp;exact rfl;exact rfl;exact qn (by omega) (by omega))
   apply qk
   refine yx [4,7] (by kernel_rfl) rfl ⟨⟨_,rfl,?_⟩,⟨_,rfl,?_⟩,trivial⟩
   ·(refine js (o:=o) (ver:=ver) (off:=0) (len:=es.length+1) (cap:=cap+1) (sz:=4) (i:=i+1) (j:=es.length+1) (m:=cap+1) rfl rfl rfl ?_ ?_ ?_ (by omega) (by omega) (by omega) ?_;exact⟨_,rfl⟩;exact⟨rfl,rfl⟩;exact rfl;rw [hi2])
    apply qk
    refine yx [7] (by kernel_rfl) rfl ⟨⟨_,rfl,?_⟩,trivial⟩
    (refine js (o:=o) (ver:=ver) (off:=0) (len:=es.length+1) (cap:=cap+1) (sz:=4) (i:=i) (j:=es.length+1) (m:=cap+1) rfl rfl rfl ?_ ?_ ?_ (by omega) (by omega) (by omega) ?_;exact⟨_,rfl⟩;exact⟨rfl,rfl⟩;exact rfl;rw [hi1])
    apply qk
    refine yx [8] (by kernel_rfl) rfl ⟨⟨_,rfl,?_⟩,trivial⟩
    (refine qbm (o:=o) (ver:=ver) (off:=(i+1) * 4) (sz:=4) (bytes:=56) (m:=es.length - i) rfl rfl e2 hsrc ?_ rfl ⟨⟨_,_,rfl,rfl,rfl,rfl,rfl⟩⟩ ?_ ?_;(show min _ _=_;omega);(rw [e3];omega);rw [hsp1])
    apply qk
    refine qc5 (by kernel_rfl) ?_
    exact v6 ⟨rfl,rfl,rfl,trivial⟩
   ·(refine js (o:=o) (ver:=ver) (off:=0) (len:=es.length+1) (cap:=cap+1) (sz:=4) (i:=i) (j:=es.length+1) (m:=cap+1) rfl rfl rfl ?_ ?_ ?_ (by omega) (by omega) (by omega) ?_;exact⟨_,rfl⟩;exact⟨rfl,rfl⟩;exact rfl;rw [hi1])
    apply qk
    refine yx [4] (by kernel_rfl) rfl ⟨⟨_,rfl,?_⟩,trivial⟩
    (refine js (o:=o) (ver:=ver) (off:=0) (len:=es.length+1) (cap:=cap+1) (sz:=4) (i:=i+1) (j:=es.length+1) (m:=cap+1) rfl rfl rfl ?_ ?_ ?_ (by omega) (by omega) (by omega) ?_;exact⟨_,rfl⟩;exact⟨rfl,rfl⟩;exact rfl;rw [hi2])
    apply qk
    refine yx [8] (by kernel_rfl) rfl ⟨⟨_,rfl,?_⟩,trivial⟩
    (refine qbm (o:=o) (ver:=ver) (off:=(i+1) * 4) (sz:=4) (bytes:=56) (m:=es.length - i) rfl rfl e2 hsrc ?_ rfl ⟨⟨_,_,rfl,rfl,rfl,rfl,rfl⟩⟩ ?_ ?_;(show min _ _=_;omega);(rw [e3];omega);rw [hsp1])
    apply qk
    refine qc5 (by kernel_rfl) ?_
    exact v6 ⟨rfl,rfl,rfl,trivial⟩
  ·(refine js (o:=o) (ver:=ver) (off:=0) (len:=es.length+1) (cap:=cap+1) (sz:=4) (i:=i) (j:=es.length+1) (m:=cap+1) rfl rfl rfl ?_ ?_ ?_ (by omega) (by omega) (by omega) ?_;exact⟨_,rfl⟩;exact⟨rfl,rfl⟩;exact rfl;rw [hi1])
   apply qk
   refine yx [3] (by kernel_rfl) rfl ⟨⟨_,rfl,?_⟩,trivial⟩
   (apply zp;exact rfl;exact rfl;exact qn (by omega) (by omega))
   apply qk
   refine yx [4] (by kernel_rfl) rfl ⟨⟨_,rfl,?_⟩,trivial⟩
   (refine js (o:=o) (ver:=ver) (off:=0) (len:=es.length+1) (cap:=cap+1) (sz:=4) (i:=i+1) (j:=es.length+1) (m:=cap+1) rfl rfl rfl ?_ ?_ ?_ (by omega) (by omega) (by omega) ?_;exact⟨_,rfl⟩;exact⟨rfl,rfl⟩;exact rfl;rw [hi2])
   apply qk
   refine yx [8] (by kernel_rfl) rfl ⟨⟨_,rfl,?_⟩,trivial⟩
   (refine qbm (o:=o) (ver:=ver) (off:=(i+1) * 4) (sz:=4) (bytes:=56) (m:=es.length - i) rfl rfl e2 hsrc ?_ rfl ⟨⟨_,_,rfl,rfl,rfl,rfl,rfl⟩⟩ ?_ ?_;(show min _ _=_;omega);(rw [e3];omega);rw [hsp1])
   apply qk
   refine qc5 (by kernel_rfl) ?_
   exact v6 ⟨rfl,rfl,rfl,trivial⟩
 ·rintro _ ⟨t,rfl⟩
  have hob:(st.set o (AObj.cells ver 152 X1))[o]? = some (.cells ver 152 X1):=xg e2
  repeat' (first|apply qr|apply ql|apply qo)
  refine js (o:=o) (ver:=ver) (off:=0) (len:=es.length+1) (cap:=cap+1) (sz:=4) (i:=i) (j:=es.length+1) (m:=cap+1) rfl rfl rfl ?_ ?_ ?_ (by omega) (by omega) (by omega) ?_
  ·exact⟨_,rfl⟩
  ·exact⟨rfl,rfl⟩
  ·exact rfl
  rw [hi1]
  repeat' (first|apply qo)
  refine qbm (o:=o) (ver:=ver) (off:=0+i * 4) (sz:=4) (bytes:=56) (L:=1) (m:=1) rfl rfl hob (.sl [entA e] none rfl) ?_ rfl ⟨⟨_,_,rfl,rfl,rfl,rfl,rfl⟩⟩ ?_ ?_
  ·show min _ _=_
   omega
  ·rw [hsl1]
   omega
  rw [hsp2]
  repeat' (first|apply qr|apply ql|apply qk|apply qo|apply qm|apply zb)
  refine qq rfl (zf rfl) ?_
  show OwnR 4 152 _ st _ (.os o ver 0 (es.length+1) (cap+1)) ((st.set o _).set o (.cells ver 152 Xn))
  rw [List.set_set,← hXn]
  rw [← hXn] at hsl2
  exact⟨.inr ⟨o,ver,cap,_,by rw [List.length_map,hnl],xg e2,hsl2,qhn _,by rw [List.length_map,hnl];omega,e6⟩,by simp,fun j hj hne=>List.getElem?_set_ne fun e=>hne (by rw [e];rfl),fun o' ho'=>.inr ho'⟩
set_option maxHeartbeats 4000000 in
theorem za4 (es:List EntV) (e:EntV) (i:Nat) (hi:i<es.length) (hl:es.length<1000000) (st:List AObj) (o ver cap:Nat) (pad:List AV) (e2:st[o]? = some (.cells ver 152 (flat (es.map entA)++pad))) (e3:(flat (es.map entA)++pad).length=(cap+1) * 4) (e5:es.length=cap+1) (e6:cap+1≤maxLen) :
  qp E 231 [.os o ver 0 es.length (cap+1),Iv i,.sl 4 [entA e] none] st fun r st'=>OwnR 4 152 ((es.take i++e::es.drop i).map entA) st (.os o ver 0 es.length (cap+1)) r st':=by
 have hI:=insB es e i cap pad hi
 have hlt:=lt_of_getElem? e2
 have hfl1:(flat [entA e]).length=4:=rfl
 have ht4:=hI.t4
 have hd4:=hI.d4
 have htake:=hI.take
 have hi1:(if cap+1=i then 0 else 0+i * 4)=0+i * 4:=if_neg (by omega)
 have hsrc:=fun S=>hI.src o ver (es.length - i) (cap+1 - i) S e3 (by omega)
 have hnl:=hI.nl
 have hnew:=hI.new
 have hk9:Iv ((es.length:Int)+1 - i)=Iv ((es.length+1 - i:Nat):Int):=congrArg (fun z:Int=>Iv z) (by omega)
 have hkk:i+(es.length+1 - i)=es.length+1:=by omega
 generalize flat ((es.drop i).map entA)=dz at hsrc hd4 hnew
 refine qt Tryz.func231 rfl (Nat.le_of_ble_eq_true rfl) ?_
 rw [List.append_nil]
 generalize flat (es.map entA)++pad=X0 at e2 e3 htake hsrc
 repeat' (first|apply qr|apply ql|apply qk|apply qo|apply qm)
 refine js (o:=o) (ver:=ver) (off:=0) (len:=es.length) (cap:=cap+1) (sz:=4) (i:=i) (j:=es.length) (m:=cap+1) rfl rfl rfl ?_ ?_ ?_ (by omega) (by omega) (by omega) ?_
 ·exact⟨_,rfl⟩
 ·exact⟨rfl,rfl⟩
 ·exact rfl
 repeat' (first|(apply zu (n:=1);(iterate 4 exact rfl))|apply qr|apply ql|apply qk|apply qo|apply qm|(apply qw;(iterate 3 exact rfl))|(apply qc;exact rfl;apply wq;exact cAo)|(apply zu;(iterate 4 exact rfl))|(apply zp;exact rfl;exact rfl;exact qn (by omega) (by omega))|apply q8)
 refine qpa rfl rfl rfl ?_
 refine qpd [(0,.os o ver 0 es.length (cap+1)),(1,Iv i),(2,.sl 4 [entA e] none),(7,Iv 1),(8,Iv es.length),(28,Iv ((es.length:Int)+1)),(30,Iv ((cap+1:Nat):Int))] st [] ⟨rfl,rfl,rfl,rfl,rfl,rfl,rfl,trivial⟩ rfl rfl fun t=>?_
 repeat' (first|apply qr|apply ql|apply qk|apply qo|(apply qw;(iterate 3 exact rfl))|(apply qc;exact rfl;apply wa;exact cAo))
 refine js (o:=o) (ver:=ver) (off:=0) (len:=es.length) (cap:=cap+1) (sz:=4) (i:=0) (j:=i) (m:=cap+1) rfl rfl rfl ?_ ?_ ?_ (by omega) (by omega) (by omega) ?_
 ·exact rfl
 ·exact⟨_,rfl⟩
 ·exact rfl
 repeat' (first|apply qo|(apply zp;exact rfl;exact rfl;exact qn (by omega) (by omega))|(apply kz;exact rfl;exact rfl;exact qn (by omega) (by omega)))
 refine qnw (sz:=4) (bytes:=56) (o:=o) (ver:=ver) (n:=i) (cap:=cap+1) (k:=es.length+1 - i) (cs:=X0) rfl hk9 e2 rfl rfl ⟨⟨_,_,rfl,rfl,rfl,rfl,rfl⟩⟩ (by omega) (by omega) (by omega) (by rw [e3];omega) (by simp only [maxLen];omega) (by omega) fun cap' zs z1 z2 z3=>?_
 rw [hkk,htake]
 refine qpd [(0,.os o ver 0 es.length (cap+1)),(1,Iv i),(2,.sl 4 [entA e] none),(7,Iv 1),(40,.os st.length 0 0 (es.length+1) cap')] (st++[.cells 0 152 (flat ((es.take i).map entA)++zs)]) [] ⟨rfl,rfl,rfl,rfl,rfl,trivial⟩ rfl rfl fun t=>?_
 obtain⟨cap',rfl⟩:∃ c,cap'=c+1:=⟨cap' - 1,by omega⟩
 have hi3:(if cap'+1=i then 0 else 0+i * 4)=0+i * 4:=if_neg (by omega)
 have hi4:(if cap'+1=i+1 then 0 else 0+(i+1) * 4)=(i+1) * 4:=by rw [if_neg (by omega)];omega
 have hsp1:jz (flat ((es.take i).map entA)++zs) (0+i * 4) (flat [entA e])=(flat ((es.take i).map entA)++flat [entA e])++zs.drop 4:=qee _ _ _ (by rw [ht4];omega)
 have hsp2:jz ((flat ((es.take i).map entA)++flat [entA e])++zs.drop 4) ((i+1) * 4) dz=flat ((es.take i++e::es.drop i).map entA)++(zs.drop 4).drop dz.length:=by
  rw [qee _ _ _ (by rw [List.length_append,ht4,hfl1];omega),hnew]
 have hl1:((flat ((es.take i).map entA)++flat [entA e])++zs.drop 4).length=(cap'+1) * 4:=by
  simp only [List.length_append,List.length_drop,ht4,hfl1,z1]
  omega
 have hl2:(flat ((es.take i++e::es.drop i).map entA)++(zs.drop 4).drop dz.length).length=(cap'+1) * 4:=by
  rw [← hsp2,qha (by rw [hl1,hd4];omega),hl1]
 have hl0:(flat ((es.take i).map entA)++zs).length=(cap'+1) * 4:=by
  rw [List.length_append,ht4,z1]
  omega
 repeat' (first|apply qr|apply ql|apply qk|apply qo|apply qm)
 refine js (o:=st.length) (ver:=0) (off:=0) (len:=es.length+1) (cap:=cap'+1) (sz:=4) (i:=i) (j:=es.length+1) (m:=cap'+1) rfl rfl rfl ?_ ?_ ?_ (by omega) (by omega) (by omega) ?_
 ·exact⟨_,rfl⟩
 ·exact⟨rfl,rfl⟩
 ·exact rfl
 rw [hi3]
 repeat' (first|apply qo)
 refine qbm (o:=st.length) (ver:=0) (off:=0+i * 4) (sz:=4) (bytes:=56) (L:=1) (m:=1) rfl rfl qbd (.sl [entA e] none rfl) ?_ rfl ⟨⟨_,_,rfl,rfl,rfl,rfl,rfl⟩⟩ ?_ ?_
 ·show min _ _=_
  omega
 ·rw [hl0]
  omega
 rw [hsp1]
 generalize hX1:(flat ((es.take i).map entA)++flat [entA e])++zs.drop 4=X1 at hsp2 hl1
 have hbo:(st++[AObj.cells 0 152 (flat ((es.take i).map entA)++zs)])[st.length]? = some (.cells 0 152 (flat ((es.take i).map entA)++zs)):=qbd
 have hS1n:((st++[AObj.cells 0 152 (flat ((es.take i).map entA)++zs)]).set st.length (.cells 0 152 X1))[st.length]? = some (.cells 0 152 X1):=xg hbo
 have hS1o:((st++[AObj.cells 0 152 (flat ((es.take i).map entA)++zs)]).set st.length (.cells 0 152 X1))[o]? = some (.cells ver 152 X0):=by
  rw [List.getElem?_set_ne (by omega),List.getElem?_append_left hlt]
  exact e2
 have hS1j:∀ j,j<st.length→((st++[AObj.cells 0 152 (flat ((es.take i).map entA)++zs)]).set st.length (.cells 0 152 X1))[j]? = st[j]?:=fun j hj=>by
  rw [List.getElem?_set_ne (by omega),List.getElem?_append_left hj]
 have hS1l:((st++[AObj.cells 0 152 (flat ((es.take i).map entA)++zs)]).set st.length (.cells 0 152 X1)).length=st.length+1:=by simp
 repeat' (first|apply qr|apply qk)
 refine qsl [(0,.os o ver 0 es.length (cap+1)),(1,Iv i),(7,Iv 1),(9,.os st.length 0 0 (es.length+1) (cap'+1))] ((st++[AObj.cells 0 152 (flat ((es.take i).map entA)++zs)]).set st.length (.cells 0 152 X1)) [] ⟨rfl,rfl,rfl,rfl,trivial⟩ rfl rfl fun t=>?_
 generalize (st++[AObj.cells 0 152 (flat ((es.take i).map entA)++zs)]).set st.length (.cells 0 152 X1)=S1 at hS1n hS1o hS1j hS1l
 refine qrh (fun s=>StA [(9,.os st.length 0 0 (es.length+1) (cap'+1))] (S1.set st.length (.cells 0 152 (flat ((es.take i++e::es.drop i).map entA)++(zs.drop 4).drop dz.length))) [] s) ?_ ?_
 ·refine qid rfl rfl ?_
  (apply qaz 0;exact rfl;kernel_rfl;kernel_rfl;kernel_rfl;exact rfl;exact qbc)
  (apply qaz 1;exact rfl;kernel_rfl;kernel_rfl;kernel_rfl;exact rfl;exact qbc)
  (apply qaz 2;exact rfl;kernel_rfl;kernel_rfl;kernel_rfl;exact rfl;exact qbc)
  (apply qaz 5;exact rfl;kernel_rfl;kernel_rfl;kernel_rfl;exact rfl;exact qbc)
  (apply qaz 6;exact rfl;kernel_rfl;kernel_rfl;kernel_rfl;exact rfl;exact qbc)
  refine yx [3,7] (by kernel_rfl) rfl ⟨⟨_,rfl,?_⟩,⟨_,rfl,?_⟩,trivial⟩
  ·(apply zp;exact rfl;exact rfl;exact qn (by omega) (by omega))
   apply qk
   refine yx [4,7] (by kernel_rfl) rfl ⟨⟨_,rfl,?_⟩,⟨_,rfl,?_⟩,trivial⟩
   ·(refine js (o:=st.length) (ver:=0) (off:=0) (len:=es.length+1) (cap:=cap'+1) (sz:=4) (i:=i+1) (j:=es.length+1) (m:=cap'+1) rfl rfl rfl ?_ ?_ ?_ (by omega) (by omega) (by omega) ?_;exact⟨_,rfl⟩;exact⟨rfl,rfl⟩;exact rfl;rw [hi4])
    apply qk
    refine yx [7] (by kernel_rfl) rfl ⟨⟨_,rfl,?_⟩,trivial⟩
    (refine js (o:=o) (ver:=ver) (off:=0) (len:=es.length) (cap:=cap+1) (sz:=4) (i:=i) (j:=es.length) (m:=cap+1) rfl rfl rfl ?_ ?_ ?_ (by omega) (by omega) (by omega) ?_;exact⟨_,rfl⟩;exact⟨rfl,rfl⟩;exact rfl;rw [hi1])
    apply qk
    refine yx [8] (by kernel_rfl) rfl ⟨⟨_,rfl,?_⟩,trivial⟩
    (refine qbm (o:=st.length) (ver:=0) (off:=(i+1) * 4) (sz:=4) (bytes:=56) (m:=es.length - i) rfl rfl hS1n (hsrc S1 hS1o) ?_ rfl ⟨⟨_,_,rfl,rfl,rfl,rfl,rfl⟩⟩ ?_ ?_;(show min _ _=_;omega);(rw [hl1];omega);rw [hsp2])
    apply qk
    refine qc5 (by kernel_rfl) ?_
    exact v6 ⟨rfl,trivial⟩
   ·(refine js (o:=o) (ver:=ver) (off:=0) (len:=es.length) (cap:=cap+1) (sz:=4) (i:=i) (j:=es.length) (m:=cap+1) rfl rfl rfl ?_ ?_ ?_ (by omega) (by omega) (by omega) ?_;exact⟨_,rfl⟩;exact⟨rfl,rfl⟩;exact rfl;rw [hi1])
    apply qk
    refine yx [4] (by kernel_rfl) rfl ⟨⟨_,rfl,?_⟩,trivial⟩
    (refine js (o:=st.length) (ver:=0) (off:=0) (len:=es.length+1) (cap:=cap'+1) (sz:=4) (i:=i+1) (j:=es.length+1) (m:=cap'+1) rfl rfl rfl ?_ ?_ ?_ (by omega) (by omega) (by omega) ?_;exact⟨_,rfl⟩;exact⟨rfl,rfl⟩;exact rfl;rw [hi4])
    apply qk
    refine yx [8] (by kernel_rfl) rfl ⟨⟨_,rfl,?_⟩,trivial⟩
    (refine qbm (o:=st.length) (ver:=0) (off:=(i+1) * 4) (sz:=4) (bytes:=56) (m:=es.length - i) rfl rfl hS1n (hsrc S1 hS1o) ?_ rfl ⟨⟨_,_,rfl,rfl,rfl,rfl,rfl⟩⟩ ?_ ?_;(show min _ _=_;omega);(rw [hl1];omega);rw [hsp2])
    apply qk
    refine qc5 (by kernel_rfl) ?_
    exact v6 ⟨rfl,trivial⟩
  ·(refine js (o:=o) (ver:=ver) (off:=0) (len:=es.length) (cap:=cap+1) (sz:=4) (i:=i) (j:=es.length) (m:=cap+1) rfl rfl rfl ?_ ?_ ?_ (by omega) (by omega) (by omega) ?_;exact⟨_,rfl⟩;exact⟨rfl,rfl⟩;exact rfl;rw [hi1])
   apply qk
   refine yx [3] (by kernel_rfl) rfl ⟨⟨_,rfl,?_⟩,trivial⟩
   (apply zp;exact rfl;exact rfl;exact qn (by omega) (by omega))
   apply qk
   refine yx [4] (by kernel_rfl) rfl ⟨⟨_,rfl,?_⟩,trivial⟩
   (refine js (o:=st.length) (ver:=0) (off:=0) (len:=es.length+1) (cap:=cap'+1) (sz:=4) (i:=i+1) (j:=es.length+1) (m:=cap'+1) rfl rfl rfl ?_ ?_ ?_ (by omega) (by omega) (by omega) ?_;exact⟨_,rfl⟩;exact⟨rfl,rfl⟩;exact rfl;rw [hi4])
   apply qk
   refine yx [8] (by kernel_rfl) rfl ⟨⟨_,rfl,?_⟩,trivial⟩
   (refine qbm (o:=st.length) (ver:=0) (off:=(i+1) * 4) (sz:=4) (bytes:=56) (m:=es.length - i) rfl rfl hS1n (hsrc S1 hS1o) ?_ rfl ⟨⟨_,_,rfl,rfl,rfl,rfl,rfl⟩⟩ ?_ ?_;(show min _ _=_;omega);(rw [hl1];omega);rw [hsp2])
   apply qk
   refine qc5 (by kernel_rfl) ?_
   exact v6 ⟨rfl,trivial⟩
 ·rintro _ ⟨t,rfl⟩
  repeat' (first|apply qr|apply ql|apply qk|apply qo|apply qm|apply zb)
  refine qq rfl (zf rfl) ?_
  show OwnR 4 152 _ st _ (.os st.length 0 0 (es.length+1) (cap'+1)) (S1.set st.length (.cells 0 152 (flat ((es.take i++e::es.drop i).map entA)++(zs.drop 4).drop dz.length)))
  refine⟨.inr ⟨st.length,0,cap',_,by rw [List.length_map,hnl],xg hS1n,hl2,qhn _,by rw [List.length_map,hnl];omega,z3⟩,by rw [List.length_set,hS1l];omega,fun j hj _=>?_,fun o' ho'=>?_⟩
  ·rw [List.getElem?_set_ne (by omega)]
   exact hS1j j hj
  ·simp only [z6,Option.some.injEq] at ho'
   left
   omega
theorem q5n (es:List EntV) (e:EntV) (i:Nat) (hi:i≤es.length) (hl:es.length<1000000) (st:List AObj) (c:AV) (hc:OwnS st 4 152 (es.map entA) c):qp E 231 [c,Iv i,.sl 4 [entA e] none] st fun r st'=>OwnR 4 152 ((es.take i++e::es.drop i).map entA) st c r st':=by
 have hml:(es.map entA).length=es.length:=by simp
 have hap:i=es.length→(es.take i++e::es.drop i).map entA=es.map entA++[entA e]:=fun h=>by subst h;simp
 rcases hc with⟨h0,hnr⟩ | ⟨o,ver,cap,pad,rfl,e2,e3,e4,e5,e6⟩
 ·have hes:es=[]:=by simpa using h0
  subst hes
  obtain rfl:i=0:=by simpa using hi
  rw [hap rfl]
  exact za2 e st c hnr
 ·rw [hml] at e5 ⊢
  by_cases hin:i=es.length
  ·rw [hap hin]
   subst hin
   exact za3 es e hl st o ver cap pad e2 e3 e5 e6
  ·by_cases hroom:es.length+1≤cap+1
   ·exact za5 es e i (by omega) hl st o ver cap pad e2 e3 hroom e6
   ·exact za4 es e i (by omega) hl st o ver cap pad e2 e3 (by omega) e6
end Go.Proofs.YtneejjefekdgjaaGreatDoor
namespace Go.Pl
open Go Go.Proofs
def qmw (l:za) (i:Nat) (x:zq):za:=match l.ents[i]? with
 |some e=>⟨l.ents.set i ⟨x,e.id⟩,l.next,l.many⟩
 |none=>l
def qb1 (l:za) (id:Int) (fs:List Fld):ErrV×za:=if atF l id<0 then (.num 7,l) else if ku fs = .no then (.no,qmw l (atF l id).toNat (qbi fs)) else (ku fs,l)
def delL (l:za) (i:Nat):za:=⟨l.ents.take i++l.ents.drop (i+1),l.next,l.many - 1⟩
def delF (l:za) (id:Int):ErrV×za:=if atF l id<0 then (.num 7,l) else (.no,delL l (atF l id).toNat)
def insL (l:za) (k:Nat) (x:zq):za:=⟨l.ents.take k++⟨x,l.next⟩::l.ents.drop k,l.next+1,l.many+1⟩
def insF (l:za) (id:Int) (fs:List Fld):Int×ErrV×za:=
 if atF l id<0∧id≠0 then (0,.num 7,l) else if ku fs = .no then (if 400≤l.many then (0,.num 11,l) else (l.next,.no,insL l (atF l id+1).toNat (qbi fs))) else (0,ku fs,l)
structure LB (n:Nat) (l:za):Prop where
 small:n<900000
 len:l.ents.length≤n
 nx0:1≤l.next
 nx1:l.next≤n+1
 mn0 : -(n:Int)≤l.many
 mn1:l.many≤n
theorem q78 {n:Nat} {l:za} (h:LB n l) (hs:n+1<900000) (id:Int) (fs:List Fld):LB (n+1) (qb1 l id fs).2:=by
 have h1:=h.len;have h2:=h.nx0;have h3:=h.nx1;have h4:=h.mn0;have h5:=h.mn1
 unfold qb1
 split
 ·exact⟨hs,by simp only;omega,h2,by simp only;omega,by simp only;omega,by simp only;omega⟩
 ·split
  ·unfold qmw
   split
   ·exact⟨hs,by simp;omega,h2,by simp only;omega,by simp only;omega,by simp only;omega⟩
   ·exact⟨hs,by simp only;omega,h2,by simp only;omega,by simp only;omega,by simp only;omega⟩
  ·exact⟨hs,by simp only;omega,h2,by simp only;omega,by simp only;omega,by simp only;omega⟩
theorem q9o {n:Nat} {l:za} (h:LB n l) (hs:n+1<900000) (id:Int):LB (n+1) (delF l id).2:=by
 have h1:=h.len;have h2:=h.nx0;have h3:=h.nx1;have h4:=h.mn0;have h5:=h.mn1
 unfold delF
 split
 ·exact⟨hs,by simp only;omega,h2,by simp only;omega,by simp only;omega,by simp only;omega⟩
 ·exact⟨hs,by simp [delL];omega,h2,by simp only [delL];omega,by simp only [delL];omega,by simp only [delL];omega⟩
theorem q91 {n:Nat} {l:za} (h:LB n l) (hs:n+1<900000) (id:Int) (fs:List Fld):LB (n+1) (insF l id fs).2.2:=by
 have h1:=h.len;have h2:=h.nx0;have h3:=h.nx1;have h4:=h.mn0;have h5:=h.mn1
 have same:LB (n+1) l:=⟨hs,by omega,h2,by omega,by omega,by omega⟩
 unfold insF
 split
 ·exact same
 ·split
  ·split
   ·exact same
   ·exact⟨hs,by simp [insL];omega,by simp only [insL];omega,by simp only [insL];omega,by simp only [insL];omega,by simp only [insL];omega⟩
  ·exact same
end Go.Pl
namespace Go.Proofs.YtneejjefekdgjaaGreatDoor
open Go Go.Av Go.RowKit Go.Proofs Go.Pl
def oneF (l:za) (x:zh):Int×ErrV×za:=if x.kind=1 then (0,qb1 l x.id x.fields) else if x.kind=2 then (0,delF l x.id) else insF l x.id x.fields
theorem qrv {n:Nat} {l:za} (h:LB n l) (hs:n+1<900000) (x:zh):LB (n+1) (oneF l x).2.2:=by
 unfold oneF
 split
 ·exact q78 h hs _ _
 ·split
  ·exact q9o h hs _
  ·exact q91 h hs _ _
theorem q99 (l:za) (hl:l.ents.length<1000000):x4 E 93 [.a (y3 l)] 0 (hpF []) ⟨.bx 0 0,x2 [],lstH 1 l++ym [],2⟩:=by
 refine qap [.a (y3 l)] [] 0 (.bx 0 0) (lstH 1 l) 2 Tryz.func93 rfl rfl rfl rfl fun S F ρ=>?_
 apply qg [19]
 repeat' (first|apply And.intro|(intro h;try exact cDd)|exact⟨Tryz.call153⟩|(refine Exists.intro _ ⟨qyq [.sl 4 (l.ents.map entA) none] _ (fun _=>rfl) (fun st=>q08 l.ents st hl),?_⟩)|exact cSd|apply qd [19]|refine exr ?_|refine qh ?_)
theorem zag (n:Nat) (l:za) (id:Int) (fs:List Fld) (hB:LB n l) (hK:KeyB fs) (hl:fs.length<1000000):x4 E 154 [.bx 0 0,.i id,.a (kc fs)] 2 (hpF (lstH 1 l)) ⟨.a (errA (qb1 l id fs).1),x2 (lstH 1 l),lstH 2 (qb1 l id fs).2++ym (lstH 1 l),3⟩:=by
 refine qap [.bx 0 0,.i id,.a (kc fs)] (lstH 1 l) 2 (.a (errA (qb1 l id fs).1)) (lstH 2 (qb1 l id fs).2) 3 Tryz.func154 rfl rfl rfl rfl fun S F ρ=>?_
 have hle:=hB.len
 have hsm:=hB.small
 have h1:=qrg l id (by omega)
 have h2:=fun st=>q0b fs st hK hl
 unfold qb1
 rcases qfj l id with h | ⟨i,e,h,he,hid,hid1⟩
 ·rw [h] at h1 ⊢
  rw [if_pos (by decide)]
  apply qg []
  repeat' (first|apply And.intro|(intro h;try exact cDd)|exact⟨Tryz.call77⟩|(refine kl h1 ?_)|exact cSd|apply qd []|refine exr ?_|refine qh ?_)
 ·rw [h] at h1 ⊢
  rw [if_neg (by omega)]
  have hm:(l.ents.map entA)[i]? = some (entA e):=by rw [List.getElem?_map,he];rfl
  have hil:=lt_of_getElem? hm
  unfold qbi at h2 ⊢
  cases hc:ku fs with
  |no=>
   rw [hc,if_pos rfl] at h2
   rw [if_pos rfl,if_pos rfl]
   unfold qmw
   rw [Int.toNat_natCast,he]
   apply qg []
   repeat' (first|apply And.intro|(intro h;try exact cDd)|exact⟨Tryz.call77⟩|(refine kl h1 ?_)|exact⟨Tryz.call229⟩|refine cpe h2 ?_|(refine qom (i:=i) rfl rfl rfl rfl rfl rfl (by omega) ?_)|(refine q47 (i:=i) (j:=0) (z:=entA e) (z':=entA ⟨⟨3,jy fs,fs⟩,e.id⟩) (u:=xf ⟨3,jy fs,fs⟩) rfl rfl (fun _=>rfl) rfl rfl rfl hm rfl rfl ?_)|exact cSd|apply qd []|refine exr ?_|refine qh ?_)
   all_goals (simp [List.map_set];done)
  |num m=>
   rw [hc,if_neg (by simp)] at h2
   rw [if_neg (by simp)]
   apply qg []
   repeat' (first|apply And.intro|(intro h;try exact cDd)|exact⟨Tryz.call77⟩|(refine kl h1 ?_)|exact⟨Tryz.call229⟩|refine cpe h2 ?_|exact cSd|apply qd []|refine exr ?_|refine qh ?_)
  |at' a m=>
   rw [hc,if_neg (by simp)] at h2
   rw [if_neg (by simp)]
   apply qg []
   repeat' (first|apply And.intro|(intro h;try exact cDd)|exact⟨Tryz.call77⟩|(refine kl h1 ?_)|exact⟨Tryz.call229⟩|refine cpe h2 ?_|exact cSd|apply qd []|refine exr ?_|refine qh ?_)
theorem zcd (n:Nat) (l:za) (id:Int) (hB:LB n l):x4 E 155 [.bx 0 0,.i id] 2 (hpF (lstH 1 l)) ⟨.a (errA (delF l id).1),x2 (lstH 1 l),lstH 2 (delF l id).2++ym (lstH 1 l),3⟩:=by
 refine qap [.bx 0 0,.i id] (lstH 1 l) 2 (.a (errA (delF l id).1)) (lstH 2 (delF l id).2) 3 Tryz.func155 rfl rfl rfl rfl fun S F ρ=>?_
 have hle:=hB.len
 have hsm:=hB.small
 have h4:=hB.mn0
 have h5:=hB.mn1
 have h1:=qrg l id (by omega)
 unfold delF
 rcases qfj l id with h | ⟨i,e,h,he,hid,hid1⟩
 ·rw [h] at h1 ⊢
  rw [if_pos (by decide)]
  apply qg []
  repeat' (first|apply And.intro|(intro h;try exact cDd)|exact⟨Tryz.call77⟩|(refine kl h1 ?_)|exact cSd|apply qd []|refine exr ?_|refine qh ?_)
 ·rw [h] at h1 ⊢
  rw [if_neg (by omega)]
  have hil:=lt_of_getElem? he
  have h2:=qn1 (f:=230) (E:=E) (xs:=l.ents.map entA) [Iv i,Iv ((i:Int)+1)] rfl (fun st c hc=>zcz l.ents i hil (by omega) st c hc)
  unfold delL
  rw [Int.toNat_natCast]
  apply qg []
  repeat' (first|apply And.intro|(intro h;try exact cDd)|exact⟨Tryz.call77⟩|(refine kl h1 ?_)|exact⟨Tryz.call230⟩|(refine kl h2 ?_)|exact cSd|apply qd []|refine exr ?_|refine qh ?_)
theorem zcf (n:Nat) (l:za) (id:Int) (fs:List Fld) (hB:LB n l) (hK:KeyB fs) (hl:fs.length<1000000):x4 E 156 [.bx 0 0,.i id,.a (kc fs)] 2 (hpF (lstH 1 l)) ⟨.tu [.i (insF l id fs).1,.a (errA (insF l id fs).2.1)],x2 (lstH 1 l),lstH 2 (insF l id fs).2.2++ym (lstH 1 l),3⟩:=by
 refine qap [.bx 0 0,.i id,.a (kc fs)] (lstH 1 l) 2 (.tu [.i (insF l id fs).1,.a (errA (insF l id fs).2.1)]) (lstH 2 (insF l id fs).2.2) 3 Tryz.func156 rfl rfl rfl rfl fun S F ρ=>?_
 have hle:=hB.len
 have hsm:=hB.small
 have h4:=hB.mn0
 have h5:=hB.mn1
 have h6:=hB.nx0
 have h7:=hB.nx1
 have h1:=qrg l id (by omega)
 have h2:=fun st=>q0b fs st hK hl
 unfold insF
 rcases qfj l id with h | ⟨i,e,h,he,hid,hid1⟩
 ·rw [h] at h1 ⊢
  by_cases h0:id=0
  ·rw [if_neg (fun q=>q.2 h0)]
   rw [show ((-1:Int)+1).toNat=0 from rfl]
   unfold qbi at h2 ⊢
   cases hc:ku fs with
   |no=>
    rw [hc,if_pos rfl] at h2
    rw [if_pos rfl,if_pos rfl]
    by_cases hm:400≤l.many
    ·rw [if_pos hm]
     apply qg []
     repeat' (first|apply And.intro|(intro h;try exact cDd)|exact⟨Tryz.call77⟩|(refine kl h1 ?_)|exact⟨Tryz.call229⟩|refine cpe h2 ?_|exact cSd|apply qd []|refine exr ?_|refine qh ?_)
    ·rw [if_neg hm]
     have h3:=qn1 (f:=231) (E:=E) (xs:=l.ents.map entA) [Iv ((0:Nat):Int),.sl 4 [entA ⟨⟨3,jy fs,fs⟩,l.next⟩] none] rfl (fun st c hc=>q5n l.ents ⟨⟨3,jy fs,fs⟩,l.next⟩ (0) (by omega) (by omega) st c hc)
     unfold insL
     apply qg []
     repeat' (first|apply And.intro|(intro h;try exact cDd)|exact⟨Tryz.call77⟩|(refine kl h1 ?_)|exact⟨Tryz.call229⟩|refine cpe h2 ?_|exact⟨Tryz.call231⟩|(refine kl h3 ?_)|exact cSd|apply qd []|refine exr ?_|refine qh ?_)
   |num m=>
    rw [hc,if_neg (by simp)] at h2
    rw [if_neg (by simp)]
    apply qg []
    repeat' (first|apply And.intro|(intro h;try exact cDd)|exact⟨Tryz.call77⟩|(refine kl h1 ?_)|exact⟨Tryz.call229⟩|refine cpe h2 ?_|exact cSd|apply qd []|refine exr ?_|refine qh ?_)
   |at' a m=>
    rw [hc,if_neg (by simp)] at h2
    rw [if_neg (by simp)]
    apply qg []
    repeat' (first|apply And.intro|(intro h;try exact cDd)|exact⟨Tryz.call77⟩|(refine kl h1 ?_)|exact⟨Tryz.call229⟩|refine cpe h2 ?_|exact cSd|apply qd []|refine exr ?_|refine qh ?_)
  ·rw [if_pos ⟨by decide,h0⟩]
   apply qg []
   repeat' (first|apply And.intro|(intro h;try exact cDd)|exact⟨Tryz.call77⟩|(refine kl h1 ?_)|exact cSd|apply qd []|refine exr ?_|refine qh ?_)
 ·rw [h] at h1 ⊢
  have hil:=lt_of_getElem? he
  rw [if_neg (fun q=>absurd q.1 (by omega))]
  rw [show ((i:Int)+1).toNat=i+1 from rfl]
  unfold qbi at h2 ⊢
  cases hc:ku fs with
  |no=>
   rw [hc,if_pos rfl] at h2
   rw [if_pos rfl,if_pos rfl]
   by_cases hm:400≤l.many
   ·rw [if_pos hm]
    apply qg []
    repeat' (first|apply And.intro|(intro h;try exact cDd)|exact⟨Tryz.call77⟩|(refine kl h1 ?_)|exact⟨Tryz.call229⟩|refine cpe h2 ?_|exact cSd|apply qd []|refine exr ?_|refine qh ?_)
   ·rw [if_neg hm]
    have h3:=qn1 (f:=231) (E:=E) (xs:=l.ents.map entA) [Iv ((i+1:Nat):Int),.sl 4 [entA ⟨⟨3,jy fs,fs⟩,l.next⟩] none] rfl (fun st c hc=>q5n l.ents ⟨⟨3,jy fs,fs⟩,l.next⟩ (i+1) (by omega) (by omega) st c hc)
    unfold insL
    apply qg []
    repeat' (first|apply And.intro|(intro h;try exact cDd)|exact⟨Tryz.call77⟩|(refine kl h1 ?_)|exact⟨Tryz.call229⟩|refine cpe h2 ?_|exact⟨Tryz.call231⟩|(refine kl h3 ?_)|exact cSd|apply qd []|refine exr ?_|refine qh ?_)
  |num m=>
   rw [hc,if_neg (by simp)] at h2
   rw [if_neg (by simp)]
   apply qg []
   repeat' (first|apply And.intro|(intro h;try exact cDd)|exact⟨Tryz.call77⟩|(refine kl h1 ?_)|exact⟨Tryz.call229⟩|refine cpe h2 ?_|exact cSd|apply qd []|refine exr ?_|refine qh ?_)
  |at' a m=>
   rw [hc,if_neg (by simp)] at h2
   rw [if_neg (by simp)]
   apply qg []
   repeat' (first|apply And.intro|(intro h;try exact cDd)|exact⟨Tryz.call77⟩|(refine kl h1 ?_)|exact⟨Tryz.call229⟩|refine cpe h2 ?_|exact cSd|apply qd []|refine exr ?_|refine qh ?_)
def qa4:Nat→List zh→za→List Int→ErrV×za×List Int
 | _,[],l,ids=>(.no,l,ids)
 |k,x::r,l,ids=>if (oneF l x).2.1 = .no then qa4 (k+1) r (oneF l x).2.2 (if 0<(oneF l x).1 then ids++[(oneF l x).1] else ids) else (.at' k (oneF l x).2.1.code,l,ids)
def doF (l:za) (b:List zh):ErrV×za×List Int:=if eErr b = .no then qa4 0 b l [] else (eErr b,l,[])
def doA (r:ErrV×za×List Int):AV:=match r.1 with
 | .no=>.tu [y3 r.2.1,qg1 r.2.2,errA .no]
 |e=>.tu [.v (.pointer none),qg1 [],errA e]
theorem q6v (r:ErrV×za×List Int):Pure (doA r):=by
 unfold doA
 split
 ·exact qdt (qqd _) (qd3 _) (qab _)
 ·exact qdt (qy _) (qd3 _) (qab _)
theorem ql1 {l:za} {x:zh} (h:(oneF l x).2.1≠.no):(oneF l x).2.1.code≠0:=by
 have key:∀ fs:List Fld,ku fs≠.no→(ku fs).code≠0:=fun fs h h'=>h ((qhm fs).1 h')
 unfold oneF at h ⊢
 split
 ·rename_i h1
  rw [if_pos h1] at h
  unfold qb1 at h ⊢
  split
  ·exact (by decide:(ErrV.num 7).code≠0)
  ·rename_i h2
   rw [if_neg h2] at h
   split
   ·rename_i h3
    rw [if_pos h3] at h
    exact absurd rfl h
   ·exact key _ (by assumption)
 ·rename_i h1
  rw [if_neg h1] at h
  split
  ·rename_i h2
   rw [if_pos h2] at h
   unfold delF at h ⊢
   split
   ·exact (by decide:(ErrV.num 7).code≠0)
   ·rename_i h3
    rw [if_neg h3] at h
    exact absurd rfl h
  ·rename_i h2
   rw [if_neg h2] at h
   unfold insF at h ⊢
   split
   ·exact (by decide:(ErrV.num 7).code≠0)
   ·rename_i h3
    rw [if_neg h3] at h
    split
    ·rename_i h4
     rw [if_pos h4] at h
     split
     ·exact (by decide:(ErrV.num 11).code≠0)
     ·rename_i h5
      rw [if_neg h5] at h
      exact absurd rfl h
    ·exact key _ (by assumption)
theorem zb2 (n:Nat) (l:za) (x:zh) (hB:LB n l) (hK:KeyB x.fields) (hl:x.fields.length<1000000):x4 E 94 [.bx 0 0,.a (qaw x)] 2 (hpF (lstH 1 l)) ⟨.tu [.i (oneF l x).1,.a (errA (oneF l x).2.1)],x2 (lstH 1 l),lstH 2 (oneF l x).2.2++ym (lstH 1 l),3⟩:=by
 refine qap [.bx 0 0,.a (qaw x)] (lstH 1 l) 2 (.tu [.i (oneF l x).1,.a (errA (oneF l x).2.1)]) (lstH 2 (oneF l x).2.2) 3 Tryz.func94 rfl rfl rfl rfl fun S F ρ=>?_
 unfold oneF
 by_cases h1:x.kind=1
 ·rw [if_pos h1]
  have hc:=zag n l x.id x.fields hB hK hl
  generalize qb1 l x.id x.fields=r at hc
  apply qg []
  repeat' (first|apply And.intro|(intro h;try exact cDd)|exact⟨Tryz.call154⟩|(refine kl hc ?_)|exact cSd|apply qd []|refine exr ?_|refine qh ?_)
 ·rw [if_neg h1]
  by_cases h2:x.kind=2
  ·rw [if_pos h2]
   have hc:=zcd n l x.id hB
   generalize delF l x.id=r at hc
   apply qg []
   repeat' (first|apply And.intro|(intro h;try exact cDd)|exact⟨Tryz.call155⟩|(refine kl hc ?_)|exact cSd|apply qd []|refine exr ?_|refine qh ?_)
  ·rw [if_neg h2]
   have hc:=zcf n l x.id x.fields hB hK hl
   generalize insF l x.id x.fields=r at hc
   apply qg []
   repeat' (first|apply And.intro|(intro h;try exact cDd)|exact⟨Tryz.call156⟩|(refine kl hc ?_)|exact cSd|apply qd []|refine exr ?_|refine qh ?_)
theorem q8z (n:Nat) (l:za) (b:List zh) (st:List AObj) (hB:LB n l) (hn:n+40<900000) (hE:∀ x∈b,EdB x) (hl:b.length<1000000):qp E 46 [y3 l,ye b] st fun r st'=>r=doA (doF l b)∧st'=st:=by
 refine qxi [.a (y3 l),.a (ye b)] (q6v _) Tryz.func46 rfl rfl (fun _=>rfl) rfl fun S0=>?_
 have hck:=fun st=>q61 b st _ rfl hE (by omega)
 unfold doF
 cases he:eErr b with
 |num m=>
  rw [he] at hck
  rw [if_neg (by simp)]
  apply qg []
  repeat' (first|apply And.intro|(intro h;try exact cDd)|exact⟨Tryz.call92⟩|refine cpe hck ?_|exact cSd|apply qd []|refine exr ?_|refine qh ?_)
 |at' a m=>
  rw [he] at hck
  rw [if_neg (by simp)]
  apply qg []
  repeat' (first|apply And.intro|(intro h;try exact cDd)|exact⟨Tryz.call92⟩|refine cpe hck ?_|exact cSd|apply qd []|refine exr ?_|refine qh ?_)
 |no=>
  rw [he] at hck
  rw [if_pos rfl]
  obtain⟨hb1,hb40,hg⟩:=qmm he
  have hcp:=q99 l (by have:=hB.len;omega)
  apply qg []
  repeat' (first|apply And.intro|(intro h;try exact cDd)|exact⟨Tryz.call92⟩|refine cpe hck ?_|exact⟨Tryz.call93⟩|(refine kl hcp ?_)|exact cSd|apply qd []|refine exr ?_|refine qh ?_)
  refine zw (X:=Nat×za×List Int) (fun (k,q,ids)=>⟨[(8,.bx 0 0),(9,.tp 2),(21,.a (ye b)),(22,.i b.length),(23,.i k)],[(0,some (.cells 156 [.tp 1,.i q.next,.i q.many])),(1,some (.own 4 152 (q.ents.map entA))),(2,some (.tip 1 3 (ids.map fun x=>Iv x)))],3⟩)
   (fun (k,q,ids)=>k≤b.length∧LB (n+k) q∧ids.length≤k∧qa4 k (b.drop k) q ids=qa4 0 b l []) (fun (k,q,ids)=>b.length - k) (0,l,[]) ⟨by omega,hB,by simp,rfl⟩ ?_ ?_
  ·skip
   repeat' (first|apply And.intro|(intro h;try exact cDd)|exact cSd|apply qd []|refine exr ?_|refine qh ?_)
   all_goals (simp;done)
  ·rintro⟨k,q,ids⟩ ⟨hk,hq,hil,hrun⟩
   by_cases hkn:k<b.length
   ·have hx:b[k]? = some b[k]:=List.getElem?_eq_getElem hkn
    have hxm:(b.map qaw)[k]? = some (qaw b[k]):=by rw [List.getElem?_map,hx];rfl
    have hxE:=hE b[k] (List.getElem_mem hkn)
    have hxf:=(qrm (hg b[k] (List.getElem_mem hkn))).1
    rw [List.drop_eq_getElem_cons hkn,qa4] at hrun
    have hidl:(ids.map fun x=>Iv x).length=ids.length:=by simp
    generalize b[k]=x at hx hxm hxE hxf hrun
    have hon:=zb2 (n+k) q x hq hxE.keys (by omega)
    have hlb:=qrv hq (by omega) x
    have hcd:=fun h=>ql1 (l:=q) (x:=x) h
    generalize oneF q x=o at hon hlb hcd hrun
    obtain⟨id,e,q'⟩:=o
    dsimp only at hon hlb hcd hrun
    cases e with
    |no=>
     rw [if_pos rfl] at hrun
     by_cases h0:0<id
     ·rw [if_pos h0] at hrun
      apply qg []
      repeat' (first|apply And.intro|(intro h;try exact cDd)|(refine Exists.intro (k) ⟨by omega,_,hxm,?_⟩)|exact⟨Tryz.call94⟩|(refine kl hon ?_)|(refine Exists.intro (k+1,q',ids++[id]) ⟨⟨by omega,hlb,by simp;omega,hrun⟩,by simp only;omega,?_⟩)|exact cSd|apply qd []|refine exr ?_|refine qh ?_)
      all_goals first|(simp;done)|(simp;omega)
     ·rw [if_neg h0] at hrun
      apply qg []
      repeat' (first|apply And.intro|(intro h;try exact cDd)|(refine Exists.intro (k) ⟨by omega,_,hxm,?_⟩)|exact⟨Tryz.call94⟩|(refine kl hon ?_)|(refine Exists.intro (k+1,q',ids) ⟨⟨by omega,hlb,by first|omega|(simp only;omega),hrun⟩,by simp only;omega,?_⟩)|exact cSd|apply qd []|refine exr ?_|refine qh ?_)
      all_goals first|(simp;done)|(simp;omega)
    |num m=>
     rw [if_neg (by simp)] at hrun
     rw [← hrun]
     have hft:=fun st=>qn6 k (.num m) st (hcd (by simp))
     apply qg []
     repeat' (first|apply And.intro|(intro h;try exact cDd)|(refine Exists.intro (k) ⟨by omega,_,hxm,?_⟩)|exact⟨Tryz.call94⟩|(refine kl hon ?_)|exact⟨Tryz.call95⟩|refine cpe hft ?_|exact cSd|apply qd []|refine exr ?_|refine qh ?_)
    |at' a m=>
     rw [if_neg (by simp)] at hrun
     rw [← hrun]
     have hft:=fun st=>qn6 k (.at' a m) st (hcd (by simp))
     apply qg []
     repeat' (first|apply And.intro|(intro h;try exact cDd)|(refine Exists.intro (k) ⟨by omega,_,hxm,?_⟩)|exact⟨Tryz.call94⟩|(refine kl hon ?_)|exact⟨Tryz.call95⟩|refine cpe hft ?_|exact cSd|apply qd []|refine exr ?_|refine qh ?_)
   ·have hkn:k=b.length:=by omega
    subst hkn
    rw [List.drop_length,qa4] at hrun
    rw [← hrun]
    apply qg []
    repeat' (first|apply And.intro|(intro h;try exact cDd)|exact cSd|apply qd []|refine exr ?_|refine qh ?_)
structure RunV where
 l:za
 given:List (List Int)
 touched:List Int
def zc2 (b:List zh):List Int:=(b.filter fun x=>decide (x.kind≠3)).map fun x=>x.id
def zdk (r:RunV) (b:List zh):RunV:=⟨(doF r.l b).2.1,r.given++[(doF r.l b).2.2],r.touched++zc2 b⟩
def qxh:List (List zh)→RunV→ErrV×RunV
 | [],r=>(.no,r)
 |b::q,r=>if (doF r.l b).1 = .no then qxh q (zdk r b) else (.at' r.given.length 10,r)
def zdf (base:qe) (bs:List (List zh)):ErrV×RunV:=if wc base = .no then qxh bs ⟨ofF (itsE base),[],[]⟩ else (wc base,⟨ofF [],[],[]⟩)
theorem qrq {n m:Nat} {l:za} (h:LB n l) (hm:n≤m) (hs:m<900000):LB m l:=by
 have h1:=h.len;have h2:=h.nx0;have h3:=h.nx1;have h4:=h.mn0;have h5:=h.mn1
 exact⟨hs,by omega,h2,by omega,by omega,by omega⟩
theorem qsv:∀ (b:List zh) (k n:Nat) (l:za) (ids:List Int),LB n l→n+b.length<900000→LB (n+b.length) (qa4 k b l ids).2.1
 | [],k,n,l,ids,h,_=>h
 |x::r,k,n,l,ids,h,hs=>by
  simp only [List.length_cons] at hs ⊢
  unfold qa4
  split
  ·have:=qsv r (k+1) (n+1) (oneF l x).2.2 (if 0<(oneF l x).1 then ids++[(oneF l x).1] else ids) (qrv h (by omega) x) (by omega)
   rw [show n+(r.length+1)=n+1+r.length by omega]
   exact this
  ·have h1:=h.len;have h2:=h.nx0;have h3:=h.nx1;have h4:=h.mn0;have h5:=h.mn1
   exact⟨by omega,by simp only;omega,h2,by simp only;omega,by simp only;omega,by simp only;omega⟩
theorem qvw {n:Nat} {l:za} (h:LB n l) (hs:n+40<900000) (b:List zh):LB (n+40) (doF l b).2.1:=by
 unfold doF
 split
 ·rename_i he
  obtain⟨h1,h2,_⟩:=qmm he
  exact qrq (qsv b 0 n l [] h (by omega)) (by omega) hs
 ·exact qrq h (by omega) hs
theorem q4u:∀ (its:List zq) (n:Nat) (l:za),LB n l→n+its.length<900000→LB (n+its.length) (its.foldl qas l)
 | [],n,l,h,_=>h
 |x::r,n,l,h,hs=>by
  simp only [List.length_cons] at hs ⊢
  rw [List.foldl_cons,show n+(r.length+1)=n+1+r.length by omega]
  refine q4u r (n+1) _ ?_ (by omega)
  have h1:=h.len;have h2:=h.nx0;have h3:=h.nx1;have h4:=h.mn0;have h5:=h.mn1
  unfold qas
  split
  ·exact⟨by omega,by simp;omega,by simp only;omega,by simp only;omega,by simp only;omega,by simp only;omega⟩
  ·exact⟨by omega,by simp;omega,h2,by simp only;omega,by simp only;omega,by simp only;omega⟩
theorem zcm (text:qe):LB 300000 (ofF (itsE text)):=by
 have h:=qog text
 have:=q4u (itsE text) 0 ⟨[],1,0⟩ ⟨by omega,by simp,by simp,by simp,by simp,by simp⟩ (by omega)
 exact qrq this (by omega) (by omega)
end Go.Proofs.YtneejjefekdgjaaGreatDoor
namespace Go.Pl
open Go Go.Proofs Go.Proofs.YtneejjefekdgjaaGreatDoor
def trL (ls:List qe):List (qe×Bool):=ls.map fun s=>(s,true)
def now0:zq:=⟨2,[],[]⟩
def blkR:Bool→zq→List qe→Option zq
 | _,now,[]=>some now
 |prev,now,t::r=>
  if wp prev t true (trL r) now.fields.length 0≠0∨qs t=1 then none
  else if qs t=4 then blkR true ⟨3,now.raw++t++[10],now.fields++[(jp (t::wm (trL r))).1]⟩ r
  else blkR (decide (qs t=3)) ⟨now.kind,now.raw++t++[10],now.fields⟩ r
def q0r:List (qe×Bool)→Prop
 | []=>True
 |(t,_)::_=>qs t=1
theorem qlv:∀ (ls:List qe) (rest:List (qe×Bool)),q0r rest→wm (trL ls++rest)=wm (trL ls)
 | [],[],_=>rfl
 | [],(t,e)::r,h=>by
  have h:qs t=1:=h
  show (if qs t=3 then _ else _)=_
  rw [if_neg (by omega)]
  rfl
 |t::r,rest,h=>by
  show (if qs t=3 then t::wm (trL r++rest) else [])=(if qs t=3 then t::wm (trL r) else [])
  rw [qlv r rest h]
theorem qq9 (prev:Bool) (t:qe) (ls:List qe) (rest:List (qe×Bool)) (n:Nat) (rec:Int) (h:q0r rest):wp prev t true (trL ls++rest) n rec=wp prev t true (trL ls) n rec:=by
 unfold wp
 rw [qlv ls rest h]
theorem qra {prev:Bool} {t:qe} {e:Bool} {L:List (qe×Bool)} {n:Nat} {rec:Int} (h:wp prev t e L n rec=0):wp prev t e L n 0=0:=by
 unfold wp at h ⊢
 split
 ·rename_i h1;rw [if_pos h1] at h;exact h
 ·rename_i h1
  rw [if_neg h1] at h
  split
  ·rfl
  ·rename_i h4
   rw [if_neg h4] at h
   split
   ·rename_i hu;rw [if_pos hu] at h;exact h
   ·rename_i hu
    rw [if_neg hu] at h
    rw [if_neg]
    intro hh
    rcases hh with hh|hh
    ·rw [if_pos (.inl hh)] at h;omega
    ·omega
theorem q56 {prev:Bool} {t:qe} {e:Bool} {L:List (qe×Bool)} {n:Nat} {rec:Int} (h:wp prev t e L n rec=0):e=true∧10∉t:=by
 unfold wp at h
 split at h
 ·omega
 ·rename_i h1
  refine⟨by cases e with|true=>rfl|false=>exact absurd (.inr (.inr rfl)) h1,fun h10=>h1 (.inl ?_)⟩
  unfold qs
  rw [if_pos h10]
def q2y (x:zq):Prop:=x.kind=3∧x.fields≠[]∨x.kind=2∧x.fields=[]
theorem qr2:∀ (L:List (qe×Bool)) (k:Nat) (prev:Bool) (now:zq) (rec:Int) (out its:List zq),refL k L prev now rec out=(none,its) →
  ∃ (ls:List qe) (rest:List (qe×Bool)) (prev':Bool) (x:zq) (rec':Int) (k':Nat),L=trL ls++rest∧q0r rest∧blkR prev now ls=some x∧refL k' rest prev' x rec' out=(none,its)∧∀ t∈ls,10∉t
 | [],k,prev,now,rec,out,its,h=>⟨[],[],prev,now,rec,k,rfl,trivial,rfl,h,by simp⟩
 |(t,e)::r,k,prev,now,rec,out,its,h=>by
  have h0:=h
  rw [refL] at h
  split at h
  ·simp at h
  ·rename_i hw
   have hw:=Classical.not_not.1 hw
   obtain⟨rfl,h10⟩:=q56 hw
   split at h
   ·rename_i h1
    exact⟨[],(t,true)::r,prev,now,rec,k,rfl,h1,rfl,h0,by simp⟩
   ·rename_i h1
    split at h
    ·rename_i h4
     obtain⟨ls,rest,p',x,rc,k',rfl,hs,hb,hr,hten⟩:=qr2 r _ _ _ _ _ _ h
     rw [qlv ls rest hs] at hb
     rw [qq9 _ _ _ _ _ _ hs] at hw
     refine⟨t::ls,rest,p',x,rc,k',rfl,hs,?_,hr,by simpa using ⟨h10,hten⟩⟩
     rw [blkR,if_neg (by simp [qra hw,h1]),if_pos h4]
     exact hb
    ·rename_i h4
     obtain⟨ls,rest,p',x,rc,k',rfl,hs,hb,hr,hten⟩:=qr2 r _ _ _ _ _ _ h
     rw [qq9 _ _ _ _ _ _ hs] at hw
     refine⟨t::ls,rest,p',x,rc,k',rfl,hs,?_,hr,by simpa using ⟨h10,hten⟩⟩
     rw [blkR,if_neg (by simp [qra hw,h1]),if_neg h4]
     exact hb
def qdk (x:zq):Prop:=(∃ t,x=⟨1,t++[10],[]⟩∧qs t=1)∨∃ ls,ls≠[]∧blkR false now0 ls=some x∧∀ t∈ls,10∉t
theorem q5i:∀ (n:Nat) (L:List (qe×Bool)) (k:Nat) (rec:Int) (out its:List zq),L.length≤n→refL k L false now0 rec out=(none,its)→(∀ x∈out,qdk x)→∀ x∈its,qdk x:=by
 intro n
 induction n with
 |zero=>
  intro L k rec out its hn h ho
  have:L=[]:=List.length_eq_zero_iff.1 (by omega)
  subst this
  have h:(none,outR now0 out)=(none,its):=h
  simp only [Prod.mk.injEq,true_and] at h
  subst h
  exact ho
 |succ n ih=>
  intro L k rec out its hn h ho
  obtain⟨ls,rest,p',x,rc,k',rfl,hs,hb,hr,hten⟩:=qr2 L _ _ _ _ _ _ h
  have hout:∀ y∈outR x out,qdk y:=fun y hy=>by
   unfold outR at hy
   split at hy
   ·exact ho y hy
   ·rename_i hx
    rcases List.mem_append.1 hy with hy|hy
    ·exact ho y hy
    ·simp only [List.mem_cons,List.not_mem_nil,or_false] at hy
     subst hy
     refine .inr ⟨ls,fun e=>hx ?_,hb,hten⟩
     subst e
     cases hb
     rfl
  cases rest with
  |nil=>
   have hr:(none,outR x out)=(none,its):=hr
   simp only [Prod.mk.injEq,true_and] at hr
   subst hr
   exact hout
  |cons y r=>
   obtain⟨t,e⟩:=y
   have h1:qs t=1:=hs
   rw [refL] at hr
   split at hr
   ·simp at hr
   ·try rw [if_pos h1] at hr
    refine ih r _ _ _ _ (by simp at hn;omega) hr fun y hy=>?_
    rcases List.mem_append.1 hy with hy|hy
    ·exact hout y hy
    ·simp only [List.mem_cons,List.not_mem_nil,or_false] at hy
     subst hy
     exact .inl ⟨t,rfl,h1⟩
theorem ql2 {text:qe} (h:(wx text).1=none):∀ x∈(wx text).2,qdk x:=by
 refine q5i _ (vm text) 0 0 [] _ (Nat.le_refl _) ((qel text).trans (Prod.ext h rfl)) (by simp)
theorem qyw {fs:List Fld} (hg:GF fs) (hne:fs≠[]):qdk ⟨3,jy fs,fs⟩:=by
 have h:=q14 hg hne
 exact ql2 (by rw [h]) _ (by rw [h];simp)
def cntI (its:List zq):Nat:=its.countP fun x=>x.kind=3
theorem qbu (a b:List zq):cntI (a++b)=cntI a+cntI b:=by simp [cntI]
theorem qa1 (x:zq) (b:List zq):cntI (x::b)=(if x.kind=3 then 1 else 0)+cntI b:=by
 simp only [cntI,List.countP_cons,decide_eq_true_eq]
 omega
theorem qw9 {now:zq} {out:List zq} (hk:q2y now) (hr:now.kind=3→now.raw≠[]):(cntI (outR now out):Int)=(cntI out:Int)+(if now.kind=3 then 1 else 0):=by
 have h0:cntI []=0:=rfl
 unfold outR
 by_cases he:now.raw=[]
 ·rw [if_pos he,if_neg fun h=>hr h he]
  omega
 ·rw [if_neg he,qbu,qa1,h0]
  by_cases h3:now.kind=3
  ·rw [if_pos h3,if_pos h3];omega
  ·rw [if_neg h3,if_neg h3];omega
theorem qmx:∀ (L:List (qe×Bool)) (k:Nat) (prev:Bool) (now:zq) (rec:Int) (out its:List zq),refL k L prev now rec out=(none,its)→q2y now→(now.kind=3→now.raw≠[])→(cntI out:Int)+(if now.kind=3 then 1 else 0)=rec→rec≤400→cntI its≤400
 | [],k,prev,now,rec,out,its,h,hk,hr,hc,hm=>by
  have h:(none,outR now out)=(none,its):=h
  simp only [Prod.mk.injEq,true_and] at h
  subst h
  have:=qw9 (out:=out) hk hr
  omega
 |(t,e)::r,k,prev,now,rec,out,its,h,hk,hr,hc,hm=>by
  rw [refL] at h
  split at h
  ·simp at h
  ·rename_i hw
   have hw:=Classical.not_not.1 hw
   split at h
   ·refine qmx r _ _ _ _ _ _ h (.inr ⟨rfl,rfl⟩) (by simp) ?_ hm
    have:=qw9 (out:=out) hk hr
    rw [qbu,qa1,show cntI []=0 from rfl,if_neg (by omega:¬ (1:Int)=3),if_neg (by omega:¬ (2:Int)=3)]
    omega
   ·split at h
    ·rename_i h4
     refine qmx r _ _ _ _ _ _ h (.inl ⟨rfl,by simp⟩) (by simp) ?_ ?_
     ·rcases hk with hk|hk
      ·rw [if_pos hk.1] at hc
       rw [if_pos rfl,if_neg (by omega)]
       exact hc
      ·rw [if_neg (by omega)] at hc
       rw [if_pos rfl,if_pos hk.1]
       omega
     ·rcases hk with hk|hk
      ·rw [if_neg (by omega)];exact hm
      ·rw [if_pos hk.1]
       unfold wp at hw
       split at hw
       ·omega
       ·rw [if_neg (by omega)] at hw
        split at hw
        ·omega
        ·split at hw
         ·omega
         ·rename_i hf
          have:now.fields.length=0:=by rw [hk.2];rfl
          omega
    ·exact qmx r _ _ _ _ _ _ h hk (fun h3=>by simp) hc hm
theorem q48 {text:qe} (h:(wx text).1=none):cntI (wx text).2≤400:=
 qmx (vm text) 0 false now0 0 [] _ ((qel text).trans (Prod.ext h rfl)) (.inr ⟨rfl,rfl⟩) (by simp [now0]) (by simp [cntI,now0]) (by omega)
structure GL (l:za):Prop where
 ok:∀ e∈l.ents,qdk e.x∧(0<e.id↔e.x.kind=3)
 nx:1≤l.next
 mn:l.many=cntI (km l)
 le:cntI (km l)≤400
theorem q4w {l:za} {x:zq} (h:GL l) (hx:qdk x) (hc:cntI (km l)+cntI [x]≤400):GL (qas l x):=by
 obtain⟨h1,h2,h3,h4⟩:=h
 rw [qa1] at hc
 unfold qas
 by_cases hk:x.kind=3
 ·rw [if_pos hk]
  refine⟨fun e he=>?_,by simp only;omega,?_,?_⟩
  ·rcases List.mem_append.1 he with he|he
   ·exact h1 e he
   ·simp only [List.mem_cons,List.not_mem_nil,or_false] at he
    subst he
    exact⟨hx,fun _=>hk,fun _=>by show 0<l.next;omega⟩
  ·simp only [km,List.map_append,qbu,List.map_cons,List.map_nil,qa1] at h3 ⊢
   rw [if_pos hk]
   simp [cntI] at h3 ⊢
   omega
  ·rw [if_pos hk] at hc
   simp only [km,List.map_append,qbu,List.map_cons,List.map_nil,qa1] at hc ⊢
   rw [if_pos hk]
   exact hc
 ·rw [if_neg hk]
  refine⟨fun e he=>?_,h2,?_,?_⟩
  ·rcases List.mem_append.1 he with he|he
   ·exact h1 e he
   ·simp only [List.mem_cons,List.not_mem_nil,or_false] at he
    subst he
    exact⟨hx,by simp [hk]⟩
  ·simp only [km,List.map_append,qbu,List.map_cons,List.map_nil,qa1] at h3 ⊢
   rw [if_neg hk]
   simp [cntI] at h3 ⊢
   omega
  ·rw [if_neg hk] at hc
   simp only [km,List.map_append,qbu,List.map_cons,List.map_nil,qa1] at hc ⊢
   rw [if_neg hk]
   exact hc
theorem qy2 (l:za) (x:zq):km (qas l x)=km l++[x]:=by
 unfold qas km
 split <;> simp
theorem qtf:∀ (its:List zq) (l:za),GL l→(∀ x∈its,qdk x)→cntI (km l)+cntI its≤400→GL (its.foldl qas l)
 | [],l,h,_,_=>h
 |x::r,l,h,hx,hc=>by
  rw [qa1] at hc
  refine qtf r (qas l x) (q4w h (hx x (by simp)) ?_) (fun y hy=>hx y (by simp [hy])) ?_
  ·rw [qa1,show cntI []=0 from rfl];omega
  ·rw [qy2,qbu,qa1]
   rw [show cntI []=0 from rfl]
   omega
theorem zcl {its:List zq} (hx:∀ x∈its,qdk x) (hc:cntI its≤400):GL (ofF its):=
 qtf its ⟨[],1,0⟩ ⟨by simp,by simp,by simp [km,cntI],by simp [km,cntI]⟩ hx (by simpa [km,cntI] using hc)
theorem qxg {fs:List Fld} (h:ku fs = .no):qdk (qbi fs)∧(qbi fs).kind=3:=by
 obtain⟨h1,h2,h3⟩:=qfl h
 unfold qbi
 rw [if_pos h]
 exact⟨qyw ⟨h2,h3⟩ h1,rfl⟩
theorem qlf {l:List zq} {i:Nat} {x:zq} (h:l[i]? = some x):cntI l=cntI (l.take i)+(if x.kind=3 then 1 else 0)+cntI (l.drop (i+1)):=by
 obtain⟨hlt,rfl⟩:=List.getElem?_eq_some_iff.1 h
 have:=congrArg cntI (List.take_append_drop i l)
 rw [qbu,List.drop_eq_getElem_cons hlt,qa1] at this
 omega
theorem q77 {l:za} (h:GL l) (id:Int) (fs:List Fld):GL (qb1 l id fs).2:=by
 unfold qb1
 split
 ·exact h
 ·rename_i ha
  split
  ·rename_i hf
   obtain⟨hp,hp3⟩:=qxg hf
   rcases qfj l id with g | ⟨i,e,g1,g2,g3,g4⟩
   ·omega
   ·rw [g1,Int.toNat_natCast]
    unfold qmw
    rw [g2]
    simp only
    have hem:=List.mem_of_getElem? g2
    obtain⟨hlt,hge⟩:=List.getElem?_eq_some_iff.1 g2
    have hek:e.x.kind=3:=(h.ok e hem).2.1 (by omega)
    have hcnt:cntI ((l.ents.set i ⟨qbi fs,e.id⟩).map fun e=>e.x)=cntI (l.ents.map fun e=>e.x):=by
     have a1:=qlf (l:=l.ents.map fun e=>e.x) (i:=i) (x:=e.x) (by simp [g2])
     have a2:=qlf (l:=(l.ents.set i ⟨qbi fs,e.id⟩).map fun e=>e.x) (i:=i) (x:=qbi fs) (by simp [hlt])
     rw [a1,a2,← List.map_take,← List.map_take,← List.map_drop,← List.map_drop,List.take_set_of_le (Nat.le_refl _),List.drop_set_of_lt (by omega),hek,hp3]
    refine⟨fun y hy=>?_,h.nx,?_,?_⟩
    ·rcases List.mem_or_eq_of_mem_set hy with hy|rfl
     ·exact h.ok y hy
     ·exact⟨hp,fun _=>hp3,fun _=>by show 0<e.id;omega⟩
    ·exact h.mn.trans (congrArg Int.ofNat hcnt).symm
    ·exact Nat.le_trans (Nat.le_of_eq hcnt) h.le
  ·exact h
theorem q9n {l:za} (h:GL l) (id:Int):GL (delF l id).2:=by
 unfold delF
 split
 ·exact h
 ·rcases qfj l id with g | ⟨i,e,g1,g2,g3,g4⟩
  ·omega
  ·rw [g1,Int.toNat_natCast]
   have hem:=List.mem_of_getElem? g2
   have hek:e.x.kind=3:=(h.ok e hem).2.1 (by omega)
   have a1:=qlf (l:=km l) (i:=i) (x:=e.x) (by simp [km,g2])
   rw [hek,if_pos rfl] at a1
   have a2:cntI (km (delL l i))=cntI ((km l).take i)+cntI ((km l).drop (i+1)):=by
    unfold delL km
    rw [List.map_append,qbu,List.map_take,List.map_drop]
   have hm:=h.mn
   have hl:=h.le
   refine⟨fun y hy=>?_,h.nx,?_,?_⟩
   ·rcases List.mem_append.1 hy with hy|hy
    ·exact h.ok y (List.mem_of_mem_take hy)
    ·exact h.ok y (List.mem_of_mem_drop hy)
   ·rw [a2]
    show l.many - 1=_
    omega
   ·rw [a2]
    omega
theorem q90 {l:za} (h:GL l) (id:Int) (fs:List Fld):GL (insF l id fs).2.2:=by
 unfold insF
 split
 ·exact h
 ·split
  ·rename_i hf
   obtain⟨hp,hp3⟩:=qxg hf
   split
   ·exact h
   ·rename_i hm4
    generalize (atF l id+1).toNat=k
    have a1:cntI (km (insL l k (qbi fs)))=cntI (km l)+1:=by
     unfold insL km
     rw [List.map_append,qbu,List.map_cons,qa1,hp3,if_pos rfl,List.map_take,List.map_drop]
     have:=congrArg cntI (List.take_append_drop k (l.ents.map fun e=>e.x))
     rw [qbu] at this
     omega
    have hm:=h.mn
    have hl:=h.le
    have hn:=h.nx
    refine⟨fun y hy=>?_,?_,?_,?_⟩
    ·rcases List.mem_append.1 hy with hy|hy
     ·exact h.ok y (List.mem_of_mem_take hy)
     ·rcases List.mem_cons.1 hy with rfl|hy
      ·exact⟨hp,fun _=>hp3,fun _=>by show 0<l.next;omega⟩
      ·exact h.ok y (List.mem_of_mem_drop hy)
    ·show 1≤l.next+1
     omega
    ·rw [a1]
     show l.many+1=_
     omega
    ·rw [a1]
     omega
  ·exact h
theorem zaq {l:za} (h:GL l) (x:zh):GL (oneF l x).2.2:=by
 unfold oneF
 split
 ·exact q77 h _ _
 ·split
  ·exact q9n h _
  ·exact q90 h _ _
theorem qsu:∀ (b:List zh) (k:Nat) (l:za) (ids:List Int),GL l→GL (qa4 k b l ids).2.1
 | [],_,l,_,h=>h
 |x::r,k,l,ids,h=>by
  unfold qa4
  split
  ·exact qsu r _ _ _ (zaq h x)
  ·exact h
theorem qvv {l:za} (h:GL l) (b:List zh):GL (doF l b).2.1:=by
 unfold doF
 split
 ·exact qsu b 0 l [] h
 ·exact h
theorem qza {text:qe} (h:wc text = .no):(wx text).1=none∧text.length≤60000∧itsE text=(wx text).2:=by
 unfold wc at h
 unfold itsE
 split at h
 ·simp at h
 ·rename_i hl
  rw [if_neg hl]
  refine⟨?_,by omega,rfl⟩
  cases hp:(wx text).1 with
  |none=>rfl
  |some x=>rw [hp] at h;simp at h
end Go.Pl
namespace Go.Pl
open Go Go.Proofs
def cntF (es:List EntV):Nat:=es.countP fun e=>decide (0<e.id)
theorem qle (es:List EntV) (e:EntV):cntF (es++[e])=cntF es+if 0<e.id then 1 else 0:=by
 unfold cntF
 rw [List.countP_append]
 by_cases h:0<e.id <;> simp [h]
theorem q9j (es:List EntV):cntF es≤es.length:=List.countP_le_length
end Go.Pl
namespace Go.Proofs.YtneejjefekdgjaaGreatDoor
open Go Go.Av Go.RowKit Go.Proofs Go.Pl
theorem qoo {a b c d:AV} (h1:Pure a) (h2:Pure b) (h3:Pure c) (h4:Pure d):Pure (.tu [a,b,c,d]):=qd9 fun z hz=>by
 simp only [List.mem_cons,List.not_mem_nil,or_false] at hz
 rcases hz with rfl|rfl|rfl|rfl
 ·exact h1
 ·exact h2
 ·exact h3
 ·exact h4
@[reducible] def qes (es : List EntV) : AV := .sl 4 (es.map entA) none
@[reducible] def xk (l : za) : AV := .ag [qes l.ents, Iv l.next]
theorem q1f (es:List EntV):Pure (qes es):=qc9 fun x hx=>by
 obtain⟨f,_,rfl⟩:=List.mem_map.1 hx
 exact qpy f
theorem qci (l:za):Pure (xk l):=qet fun y hy=>by
 simp only [AV.cells,List.mem_cons,List.not_mem_nil,or_false] at hy
 rcases hy with rfl|rfl
 ·exact q1f _
 ·exact qy _
def ofR (text:qe):za:=if wc text = .no then ofF (itsE text) else⟨[],0,0⟩
theorem qzf {text:qe} (h:wc text = .no):qcc text = .tu [x5 (itsE text),Iv (-9),Iv 0]:=by
 unfold qcc itsE
 unfold wc at h
 split
 ·rename_i hb
  rw [if_pos hb] at h
  simp at h
 ·rename_i hb
  rw [if_neg hb] at h
  rcases hp:(wx text).1 with _ | ⟨a,n⟩
  ·rfl
  ·rw [hp] at h
   simp at h
theorem q5e (text:qe) (st:List AObj) (hl:text.length<1000000):qp E 36 [Sv text] st fun r st'=>r = .tu [xk (ofR text),Iv (wc text).pos,Iv (wc text).code]∧st'=st:=by
 refine z0 [.s text] (qdt (qci _) (qy _) (qy _)) Tryz.func36 rfl rfl (fun _=>rfl) rfl fun S0=>?_
 unfold ofR
 by_cases hno:wc text = .no
 ·have hp:=fun st=>ql7 text st hl
  rw [qzf hno] at hp
  have hil:=qog text
  rw [hno,if_pos rfl]
  generalize itsE text=its at hp hil
  have hmi:(its.map xf).length=its.length:=by simp
  apply qg []
  repeat' (first|apply And.intro|(intro h;try exact cDd)|exact⟨Tryz.call78⟩|refine cpe hp ?_|exact cSd|apply qd []|refine exr ?_|refine qh ?_)
  refine zw (X:=Nat×za) (fun (k,l)=>⟨[(2,.bx 0 0),(5,.a (x5 its)),(6,.i (-9)),(8,.bx 1 0),(9,.i k)],[(0,some (.cells 75 [.a jw,.i 0])),(1,some (.cells 75 [.tp 2,.i l.next])),(2,some (.tip 4 171 (l.ents.map entA)))],3⟩)
   (fun (k,l)=>k≤its.length∧l.ents.length=k∧(1≤l.next∧l.next≤k+1)∧(its.drop k).foldl qas l=ofF its) (fun (k,l)=>its.length - k) (0,⟨[],1,0⟩) ⟨by omega,rfl,⟨by decide,by decide⟩,rfl⟩ ?_ ?_
  ·skip
   repeat' (first|apply And.intro|(intro h;try exact cDd)|exact cSd|apply qd []|refine exr ?_|refine qh ?_)
   all_goals (simp;done)
  ·rintro⟨k,l⟩ ⟨hk,hlk,hnx,hrun⟩
   by_cases hkn:k<its.length
   ·have hx:its[k]? = some its[k]:=List.getElem?_eq_getElem hkn
    have hxm:(its.map xf)[k]? = some (xf its[k]):=by rw [List.getElem?_map,hx];rfl
    rw [List.drop_eq_getElem_cons hkn,List.foldl_cons] at hrun
    have hml:(l.ents.map entA).length=l.ents.length:=by simp
    generalize its[k]=x at hx hxm hrun
    by_cases hk3:x.kind=3
    ·have e:qas l x=⟨l.ents++[⟨x,l.next⟩],l.next+1,l.many+1⟩:=if_pos hk3
     rw [e] at hrun
     apply qg []
     repeat' (first|apply And.intro|(intro h;try exact cDd)|(refine Exists.intro (k) ⟨by omega,_,hxm,?_⟩)|(refine Exists.intro (k+1,⟨l.ents++[⟨x,l.next⟩],l.next+1,l.many+1⟩) ⟨⟨by omega,by simp [hlk],by simp only;omega,hrun⟩,by simp only;omega,?_⟩)|exact cSd|apply qd []|refine exr ?_|refine qh ?_)
     all_goals (simp;done)
    ·have e:qas l x=⟨l.ents++[⟨x,0⟩],l.next,l.many⟩:=if_neg hk3
     rw [e] at hrun
     apply qg []
     repeat' (first|apply And.intro|(intro h;try exact cDd)|(refine Exists.intro (k) ⟨by omega,_,hxm,?_⟩)|(refine Exists.intro (k+1,⟨l.ents++[⟨x,0⟩],l.next,l.many⟩) ⟨⟨by omega,by simp [hlk],by simp only;omega,hrun⟩,by simp only;omega,?_⟩)|exact cSd|apply qd []|refine exr ?_|refine qh ?_)
     all_goals (simp;done)
   ·have hkn:k=its.length:=by omega
    subst hkn
    rw [List.drop_length] at hrun
    have e:ofF its=l:=hrun.symm
    rw [e]
    apply qg []
    repeat' (first|apply And.intro|(intro h;try exact cDd)|exact cSd|apply qd []|refine exr ?_|refine qh ?_)
 ·obtain⟨its,p,n,hpa,hp,hn,hn0⟩:=q5f text hl
  have hz:n≠0:=fun h=>hno (hn0.1 h)
  rw [if_neg hno,← hp,← hn]
  apply qg []
  repeat' (first|apply And.intro|(intro h;try exact cDd)|exact⟨Tryz.call78⟩|refine cpe hpa ?_|exact cSd|apply qd []|refine exr ?_|refine qh ?_)
theorem qi5 (l:za) (id:Int) (st:List AObj) (hl:l.ents.length<1000000):qp E 117 [xk l,Iv id] st fun r st'=>r=Iv (atF l id)∧st'=st:=by
 refine z0 [.a (xk l),.i id] (qy _) Tryz.func117 rfl rfl (fun _=>rfl) rfl fun S0=>?_
 unfold atF
 obtain⟨es,nx,mn⟩:=l
 dsimp only at hl ⊢
 have hmi:(es.map entA).length=es.length:=by simp
 apply qg []
 repeat' (first|apply And.intro|(intro h;try exact cDd)|exact cSd|apply qd []|refine exr ?_|refine qh ?_)
 refine zw (X:=Nat) (fun k=>⟨[(1,.i id),(2,.a (.pp [qes es,Iv nx])),(5,.i k)],[],0⟩) (fun k=>k≤es.length∧(0<id→qa8 id k (es.drop k)=qa8 id 0 es)) (fun k=>es.length - k) 0 ⟨by omega,by simp⟩ ?_ ?_
 ·skip
  repeat' (first|apply And.intro|(intro h;try exact cDd)|exact cSd|apply qd []|refine exr ?_|refine qh ?_)
  all_goals (simp;done)
 ·rintro k ⟨hk,hrun⟩
  by_cases h1:id<1
  ·rw [if_pos h1]
   apply qg []
   repeat' (first|apply And.intro|(intro h;try exact cDd)|exact cSd|apply qd []|refine exr ?_|refine qh ?_)
  ·rw [if_neg h1]
   have hrun:=hrun (by omega)
   by_cases hkn:k<es.length
   ·have hx:es[k]? = some es[k]:=List.getElem?_eq_getElem hkn
    have hxm:(es.map entA)[k]? = some (entA es[k]):=by rw [List.getElem?_map,hx];rfl
    rw [List.drop_eq_getElem_cons hkn,qa8] at hrun
    generalize es[k]=e at hx hxm hrun
    by_cases hid:e.id=id
    ·rw [if_pos hid] at hrun
     rw [← hrun]
     apply qg []
     repeat' (first|apply And.intro|(intro h;try exact cDd)|(refine Exists.intro (k) ⟨by omega,_,hxm,?_⟩)|exact cSd|apply qd []|refine exr ?_|refine qh ?_)
    ·rw [if_neg hid] at hrun
     apply qg []
     repeat' (first|apply And.intro|(intro h;try exact cDd)|(refine Exists.intro (k) ⟨by omega,_,hxm,?_⟩)|(refine Exists.intro (k+1) ⟨⟨by omega,fun _=>hrun⟩,by omega,?_⟩)|exact cSd|apply qd []|refine exr ?_|refine qh ?_)
   ·have hkn:k=es.length:=by omega
    subst hkn
    rw [List.drop_length,qa8] at hrun
    rw [← hrun]
    apply qg []
    repeat' (first|apply And.intro|(intro h;try exact cDd)|exact cSd|apply qd []|refine exr ?_|refine qh ?_)
theorem q2e (l:za) (st:List AObj) (hl:l.ents.length<1000000):qp E 235 [xk l] st fun r st'=>r=Iv (cntF l.ents)∧st'=st:=by
 refine z0 [.a (xk l)] (qy _) Tryz.func235 rfl rfl (fun _=>rfl) rfl fun S0=>?_
 obtain⟨es,nx,mn⟩:=l
 dsimp only at hl ⊢
 have hmi:(es.map entA).length=es.length:=by simp
 apply qg []
 repeat' (first|apply And.intro|(intro h;try exact cDd)|exact cSd|apply qd []|refine exr ?_|refine qh ?_)
 refine zw (X:=Nat) (fun k=>⟨[(1,.a (.pp [qes es,Iv nx])),(3,.i (cntF (es.take k):Nat)),(4,.i k)],[],0⟩) (fun k=>k≤es.length) (fun k=>es.length - k) 0 (by omega) ?_ ?_
 ·skip
  repeat' (first|apply And.intro|(intro h;try exact cDd)|exact cSd|apply qd []|refine exr ?_|refine qh ?_)
  all_goals (simp [cntF];done)
 ·rintro k hk
  by_cases hkn:k<es.length
  ·have hx:es[k]? = some es[k]:=List.getElem?_eq_getElem hkn
   have hxm:(es.map entA)[k]? = some (entA es[k]):=by rw [List.getElem?_map,hx];rfl
   have htk:es.take (k+1)=es.take k++[es[k]]:=by rw [List.take_add_one,hx];rfl
   have hct:=qle (es.take k) es[k]
   have hcl:=q9j (es.take k)
   have hcl2:(es.take k).length≤k:=by simp;omega
   rw [← htk] at hct
   generalize es[k]=e at hx hxm hct
   by_cases h0:0<e.id
   ·rw [if_pos h0] at hct
    apply qg []
    repeat' (first|apply And.intro|(intro h;try exact cDd)|(refine Exists.intro (k) ⟨by omega,_,hxm,?_⟩)|(refine Exists.intro (k+1) ⟨by omega,by omega,?_⟩)|exact cSd|apply qd []|refine exr ?_|refine qh ?_)
    all_goals (simp [hct];done)
   ·rw [if_neg h0] at hct
    apply qg []
    repeat' (first|apply And.intro|(intro h;try exact cDd)|(refine Exists.intro (k) ⟨by omega,_,hxm,?_⟩)|(refine Exists.intro (k+1) ⟨by omega,by omega,?_⟩)|exact cSd|apply qd []|refine exr ?_|refine qh ?_)
    all_goals (simp [hct];done)
  ·have hkn:k=es.length:=by omega
   subst hkn
   rw [List.take_length]
   apply qg []
   repeat' (first|apply And.intro|(intro h;try exact cDd)|exact cSd|apply qd []|refine exr ?_|refine qh ?_)
theorem qnp (fs:List Fld) (st:List AObj) (h:quf fs):qp E 234 [kc fs] st fun r st'=>r=xf ⟨3,jy fs,fs⟩∧st'=st:=by
 refine z0 [.a (kc fs)] (qet (qf8 _)) Tryz.func234 rfl rfl (fun _=>rfl) rfl fun S0=>?_
 have h1:=fun st=>q2c fs st h
 apply qg []
 repeat' (first|apply And.intro|(intro h;try exact cDd)|exact⟨Tryz.call183⟩|refine cpe h1 ?_|exact cSd|apply qd []|refine exr ?_|refine qh ?_)
end Go.Proofs.YtneejjefekdgjaaGreatDoor
namespace Go.Pl
open Go Go.Proofs Go.Av
def dlF (i:Nat) (es:List EntV) (k:Nat):List EntV:=(es.take k).take i++(es.take k).drop (i+1)
theorem zb1 {i:Nat} {es:List EntV} {k:Nat} {e:EntV} (h:es[k]? = some e):dlF i es (k+1)=dlF i es k++if k=i then [] else [e]:=by
 have hk:=lt_of_getElem? h
 have hl:(es.take k).length=k:=by simp;omega
 unfold dlF
 rw [List.take_add_one,h]
 simp only [Option.toList_some]
 rw [List.take_append,List.drop_append,hl]
 by_cases hki:k=i
 ·subst hki
  rw [if_pos rfl]
  have e1:(es.take k).drop (k+1)=[]:=List.drop_eq_nil_of_le (by omega)
  simp [e1]
 ·rw [if_neg hki]
  by_cases hlt:k<i
  ·have e1:(es.take k).drop (i+1)=[]:=List.drop_eq_nil_of_le (by omega)
   obtain⟨d,hd⟩:∃ d,i - k=d+1:=⟨i - k - 1,by omega⟩
   have hd2:i+1 - k=d+1+1:=by omega
   rw [e1,hd,hd2]
   simp
  ·have hd:i - k=0:=by omega
   have hd2:i+1 - k=0:=by omega
   rw [hd,hd2]
   simp
def inF (j:Nat) (x:EntV) (es:List EntV) (k:Nat):List EntV:=(es.take k).take j++if j≤k then x::(es.take k).drop j else []
theorem zb9 {j:Nat} {x:EntV} {es:List EntV} {k:Nat} {e:EntV} (h:es[k]? = some e):inF j x es (k+1)=inF j x es k++e::if j=k+1 then [x] else []:=by
 have hk:=lt_of_getElem? h
 have hl:(es.take k).length=k:=by simp;omega
 unfold inF
 rw [List.take_add_one,h]
 simp only [Option.toList_some]
 rw [List.take_append,List.drop_append,hl]
 by_cases hjk:j=k+1
 ·subst hjk
  have e1:(es.take k).drop (k+1)=[]:=List.drop_eq_nil_of_le (by omega)
  have e2:k+1 - k=1:=by omega
  rw [if_pos (Nat.le_refl _),if_pos rfl,if_neg (by omega),e1,e2]
  simp
 ·rw [if_neg hjk]
  by_cases hlt:j≤k
  ·have hd:j - k=0:=by omega
   rw [if_pos (by omega),if_pos hlt,hd]
   simp
  ·obtain⟨d,hd⟩:∃ d,j - k=d+1:=⟨j - k - 1,by omega⟩
   rw [if_neg (by omega),if_neg hlt,hd]
   simp
end Go.Pl
namespace Go.Proofs.YtneejjefekdgjaaGreatDoor
open Go Go.Av Go.RowKit Go.Proofs Go.Pl
def rlR (l:za) (e:ErrV):AV:=.tu [xk l,Iv e.pos,Iv e.code]
theorem q8a (l:za) (e:ErrV):Pure (rlR l e):=qdt (qci _) (qy _) (qy _)
theorem qpn (fs:List Fld) (h:ku fs≠.no):∃ p n,(ku fs).pos=p∧(ku fs).code=n∧n≠0:=⟨_,_,rfl,rfl,fun h'=>h ((qhm fs).1 h')⟩
theorem qzg (l:za) (id:Int) (fs:List Fld) (st:List AObj) (hl:l.ents.length<1000000) (hK:KeyB fs) (hfl:fs.length<1000000):qp E 159 [xk l,Iv id,kc fs] st fun r st'=>r=rlR (qb1 l id fs).2 (qb1 l id fs).1∧st'=st:=by
 refine z0 [.a (xk l),.i id,.a (kc fs)] (q8a _ _) Tryz.func159 rfl rfl (fun _=>rfl) rfl fun S0=>?_
 have h1:=fun st=>qi5 l id st hl
 have hmi:(l.ents.map entA).length=l.ents.length:=by simp
 have h2:=fun st=>qh3 fs st hK (by omega)
 unfold qb1 rlR
 rcases qfj l id with h | ⟨i,e,h,he,hid,hid1⟩
 ·rw [h] at h1 ⊢
  rw [if_pos (by decide)]
  apply qg []
  repeat' (first|apply And.intro|(intro h;try exact cDd)|exact⟨Tryz.call117⟩|refine cpe h1 ?_|exact cSd|apply qd []|refine exr ?_|refine qh ?_)
 ·rw [h] at h1 ⊢
  rw [if_neg (by omega)]
  have hil:=lt_of_getElem? he
  by_cases hc:ku fs = .no
  ·rw [hc] at h2
   obtain⟨_,g3,g4⟩:=qfl hc
   have h3:=fun st=>qnp fs st (qwf g3 g4)
   rw [if_pos hc]
   unfold qmw qbi
   rw [if_pos hc,Int.toNat_natCast,he]
   simp only
   have hx':∀ k e',l.ents[k]? = some e'→(l.ents.set i ⟨⟨3,jy fs,fs⟩,e.id⟩).take (k+1)=(l.ents.set i ⟨⟨3,jy fs,fs⟩,e.id⟩).take k++[if k=i then⟨⟨3,jy fs,fs⟩,e.id⟩ else e']:=fun k e' h=>by
    have hk:=lt_of_getElem? h
    rw [List.take_add_one]
    congr 1
    by_cases hki:k=i
    ·subst hki
     rw [if_pos rfl,List.getElem?_set_self hk]
     try rfl
    ·rw [if_neg hki,List.getElem?_set_ne (fun h=>hki h.symm),h]
     rfl
   have hsl:(l.ents.set i ⟨⟨3,jy fs,fs⟩,e.id⟩).length=l.ents.length:=by simp
   generalize l.ents.set i ⟨⟨3,jy fs,fs⟩,e.id⟩=es' at hx' hsl
   apply qg []
   repeat' (first|apply And.intro|(intro h;try exact cDd)|exact⟨Tryz.call117⟩|refine cpe h1 ?_|exact⟨Tryz.call233⟩|refine cpe h2 ?_|exact cSd|apply qd []|refine exr ?_|refine qh ?_)
   refine zw (X:=Nat) (fun k=>⟨[(2,.a (kc fs)),(3,.a (.pp [qes l.ents,Iv l.next])),(6,.bx 0 0),(9,.i i),(12,.bx 1 0),(13,.i k)],[(0,some (.cells 75 [.a jw,.i 0])),(1,some (.cells 75 [.tp 2,.i l.next])),(2,some (.tip 4 171 ((es'.take k).map entA)))],3⟩)
    (fun k=>k≤l.ents.length) (fun k=>l.ents.length - k) 0 (by omega) ?_ ?_
   ·skip
    repeat' (first|apply And.intro|(intro h;try exact cDd)|exact cSd|apply qd []|refine exr ?_|refine qh ?_)
    all_goals first|rfl|(simp;done)
   ·rintro k hk
    by_cases hkn:k<l.ents.length
    ·have hx:l.ents[k]? = some l.ents[k]:=List.getElem?_eq_getElem hkn
     have hxm:(l.ents.map entA)[k]? = some (entA l.ents[k]):=by rw [List.getElem?_map,hx];rfl
     have htk:=hx' k _ hx
     have htl:((es'.take k).map entA).length≤k:=by simp;omega
     by_cases hki:k=i
     ·have hee:l.ents[k]=e:=by
       have h1:=he
       rw [← hki,hx] at h1
       simpa using h1
      rw [hee] at hx hxm
      rw [if_pos hki] at htk
      apply qg []
      repeat' (first|apply And.intro|(intro h;try exact cDd)|(refine Exists.intro (k) ⟨by omega,_,hxm,?_⟩)|exact⟨Tryz.call234⟩|refine cpe h3 ?_|(refine Exists.intro (k+1) ⟨by omega,by omega,?_⟩)|exact absurd hki (by omega)|exact cSd|apply qd []|refine exr ?_|refine qh ?_)
      all_goals first|(rw [htk];simp;done)|omega|(simp;omega)
     ·rw [if_neg hki] at htk
      generalize l.ents[k]=e' at hx hxm htk
      apply qg []
      repeat' (first|apply And.intro|(intro h;try exact cDd)|(refine Exists.intro (k) ⟨by omega,_,hxm,?_⟩)|(refine Exists.intro (k+1) ⟨by omega,by omega,?_⟩)|exact absurd (by omega) hki|exact cSd|apply qd []|refine exr ?_|refine qh ?_)
      all_goals first|(rw [htk];simp;done)|omega|(simp;omega)
    ·have hkn:k=l.ents.length:=by omega
     subst hkn
     rw [List.take_of_length_le (by omega)]
     apply qg []
     repeat' (first|apply And.intro|(intro h;try exact cDd)|exact cSd|apply qd []|refine exr ?_|refine qh ?_)
  ·obtain⟨p,n,hp,hn,hn0⟩:=qpn fs hc
   rw [hp,hn] at h2
   rw [if_neg hc,hp,hn]
   apply qg []
   repeat' (first|apply And.intro|(intro h;try exact cDd)|exact⟨Tryz.call117⟩|refine cpe h1 ?_|exact⟨Tryz.call233⟩|refine cpe h2 ?_|exact cSd|apply qd []|refine exr ?_|refine qh ?_)
theorem q2b (l:za) (id:Int) (st:List AObj) (hl:l.ents.length<1000000):qp E 160 [xk l,Iv id] st fun r st'=>r = .tu [xk (delF l id).2,Iv (delF l id).1.code]∧st'=st:=by
 refine z0 [.a (xk l),.i id] (qcg (qci _) (qy _)) Tryz.func160 rfl rfl (fun _=>rfl) rfl fun S0=>?_
 have h1:=fun st=>qi5 l id st hl
 have hmi:(l.ents.map entA).length=l.ents.length:=by simp
 unfold delF
 rcases qfj l id with h | ⟨i,e,h,he,hid,hid1⟩
 ·rw [h] at h1 ⊢
  rw [if_pos (by decide)]
  apply qg []
  repeat' (first|apply And.intro|(intro h;try exact cDd)|exact⟨Tryz.call117⟩|refine cpe h1 ?_|exact cSd|apply qd []|refine exr ?_|refine qh ?_)
 ·rw [h] at h1 ⊢
  rw [if_neg (by omega),Int.toNat_natCast]
  unfold delL
  simp only
  have hend:dlF i l.ents l.ents.length=l.ents.take i++l.ents.drop (i+1):=by unfold dlF;rw [List.take_length]
  have hll:∀ k,k≤l.ents.length→((dlF i l.ents k).map entA).length≤k:=fun k hk=>by
   simp [dlF]
   omega
  rw [← hend]
  apply qg []
  repeat' (first|apply And.intro|(intro h;try exact cDd)|exact⟨Tryz.call117⟩|refine cpe h1 ?_|exact cSd|apply qd []|refine exr ?_|refine qh ?_)
  refine zw (X:=Nat) (fun k=>⟨[(2,.a (.pp [qes l.ents,Iv l.next])),(4,.bx 0 0),(6,.i i),(7,.bx 1 0),(8,.i k)],[(0,some (.cells 75 [.a jw,.i 0])),(1,some (.cells 75 [.tp 2,.i l.next])),(2,some (.tip 4 171 ((dlF i l.ents k).map entA)))],3⟩)
   (fun k=>k≤l.ents.length) (fun k=>l.ents.length - k) 0 (by omega) ?_ ?_
  ·skip
   repeat' (first|apply And.intro|(intro h;try exact cDd)|exact cSd|apply qd []|refine exr ?_|refine qh ?_)
   all_goals first|rfl|(simp [dlF];done)|(simp [dlF];rfl)
  ·rintro k hk
   by_cases hkn:k<l.ents.length
   ·have hx:l.ents[k]? = some l.ents[k]:=List.getElem?_eq_getElem hkn
    have hxm:(l.ents.map entA)[k]? = some (entA l.ents[k]):=by rw [List.getElem?_map,hx];rfl
    have htk:=zb1 (i:=i) hx
    have htl:=hll k hk
    rw [List.length_map] at htl
    generalize l.ents[k]=e' at hx hxm htk
    by_cases hki:k=i
    ·rw [if_pos hki,List.append_nil] at htk
     apply qg []
     repeat' (first|apply And.intro|(intro h;try exact cDd)|(refine Exists.intro (k+1) ⟨by omega,by omega,?_⟩)|exact absurd hki (by omega)|exact cSd|apply qd []|refine exr ?_|refine qh ?_)
     all_goals first|(rw [htk];done)|omega|(simp;omega)
    ·rw [if_neg hki] at htk
     apply qg []
     repeat' (first|apply And.intro|(intro h;try exact cDd)|(refine Exists.intro (k) ⟨by omega,_,hxm,?_⟩)|(refine Exists.intro (k+1) ⟨by omega,by omega,?_⟩)|exact absurd (by omega) hki|exact cSd|apply qd []|refine exr ?_|refine qh ?_)
     all_goals first|(rw [htk];simp;done)|omega|(simp;omega)
   ·have hkn:k=l.ents.length:=by omega
    subst hkn
    apply qg []
    repeat' (first|apply And.intro|(intro h;try exact cDd)|exact cSd|apply qd []|refine exr ?_|refine qh ?_)
def rlR4 (l:za) (n:Int) (e:ErrV):AV:=.tu [xk l,Iv n,Iv e.pos,Iv e.code]
theorem q5g (l:za) (n:Int) (e:ErrV):Pure (rlR4 l n e):=qoo (qci _) (qy _) (qy _) (qy _)
set_option maxHeartbeats 4000000 in
theorem q2d (l:za) (id:Int) (fs:List Fld) (st:List AObj) (hl:l.ents.length<1000000) (hn:1≤l.next∧l.next<1000000) (hM:l.many=cntF l.ents) (hK:KeyB fs) (hfl:fs.length<1000000):qp E 161 [xk l,Iv id,kc fs] st fun r st'=>r=rlR4 (insF l id fs).2.2 (insF l id fs).1 (insF l id fs).2.1∧st'=st:=by
 refine z0 [.a (xk l),.i id,.a (kc fs)] (q5g _ _ _) Tryz.func161 rfl rfl (fun _=>rfl) rfl fun S0=>?_
 have h1:=fun st=>qi5 l id st hl
 have hmi:(l.ents.map entA).length=l.ents.length:=by simp
 have h2:=fun st=>qh3 fs st hK (by omega)
 have h3:=fun st=>q2e l st hl
 unfold insF rlR4
 rw [hM]
 rcases Decidable.em (atF l id<0∧id≠0) with hb|hb
 ·rw [if_pos hb]
  obtain⟨hb1,hb2⟩:=hb
  generalize atF l id=a at hb1 h1
  apply qg []
  repeat' (first|apply And.intro|(intro h;try exact cDd)|exact⟨Tryz.call117⟩|refine cpe h1 ?_|exact cSd|apply qd []|refine exr ?_|refine qh ?_)
 ·rw [if_neg hb]
  obtain⟨a,j,ha,hj,hjl,hor⟩:∃ (a:Int) (j:Nat),atF l id=a∧a+1=(j:Int)∧j≤l.ents.length∧(0≤a∨a = -1∧id=0):=by
   rcases qfj l id with h | ⟨i,e,h,he,_⟩
   ·exact⟨-1,0,h,rfl,by omega,.inr ⟨rfl,Decidable.not_not.1 fun h0=>hb ⟨by omega,h0⟩⟩⟩
   ·have:=lt_of_getElem? he
    exact⟨i,i+1,h,rfl,by omega,.inl (by omega)⟩
  rw [ha] at h1 hb ⊢
  rw [hj,Int.toNat_natCast]
  by_cases hc:ku fs = .no
  ·rw [hc] at h2
   rw [if_pos hc]
   by_cases hm:400≤(cntF l.ents:Int)
   ·rw [if_pos hm]
    generalize cntF l.ents=m at h3 hm
    rcases hor with hor | ⟨hor,hor2⟩
    ·apply qg []
     repeat' (first|apply And.intro|(intro h;try exact cDd)|exact⟨Tryz.call117⟩|refine cpe h1 ?_|exact⟨Tryz.call233⟩|refine cpe h2 ?_|exact⟨Tryz.call235⟩|refine cpe h3 ?_|exact cSd|apply qd []|refine exr ?_|refine qh ?_)
    ·apply qg []
     repeat' (first|apply And.intro|(intro h;try exact cDd)|exact⟨Tryz.call117⟩|refine cpe h1 ?_|exact⟨Tryz.call233⟩|refine cpe h2 ?_|exact⟨Tryz.call235⟩|refine cpe h3 ?_|exact cSd|apply qd []|refine exr ?_|refine qh ?_)
   ·rw [if_neg hm]
    generalize cntF l.ents=m at h3 hm
    obtain⟨_,g3,g4⟩:=qfl hc
    have h4:=fun st=>qnp fs st (qwf g3 g4)
    unfold insL qbi
    rw [if_pos hc]
    simp only
    have hend:inF j ⟨⟨3,jy fs,fs⟩,l.next⟩ l.ents l.ents.length=l.ents.take j++⟨⟨3,jy fs,fs⟩,l.next⟩::l.ents.drop j:=by
     unfold inF
     rw [List.take_length,if_pos hjl]
    have hll:∀ k,k≤l.ents.length→((inF j ⟨⟨3,jy fs,fs⟩,l.next⟩ l.ents k).map entA).length≤k+1:=fun k hk=>by
     unfold inF
     split
     ·simp
      omega
     ·simp
      omega
    rw [← hend]
    have h0:0≤a→inF j ⟨⟨3,jy fs,fs⟩,l.next⟩ l.ents 0=[]:=fun h=>by
     unfold inF
     rw [if_neg (by omega)]
     simp
    have h00:a = -1→inF j ⟨⟨3,jy fs,fs⟩,l.next⟩ l.ents 0=[⟨⟨3,jy fs,fs⟩,l.next⟩]:=fun h=>by
     unfold inF
     rw [if_pos (by omega)]
     simp
    have hst:=fun k e'=>zb9 (j:=j) (x:=⟨⟨3,jy fs,fs⟩,l.next⟩) (es:=l.ents) (k:=k) (e:=e')
    generalize inF j ⟨⟨3,jy fs,fs⟩,l.next⟩ l.ents=iF at hll h0 h00 hst
    rcases hor with hor | ⟨hor,hor2⟩
    ·have h0:=h0 hor
     clear h00
     apply qg []
     repeat' (first|apply And.intro|(intro h;try exact cDd)|exact⟨Tryz.call117⟩|refine cpe h1 ?_|exact⟨Tryz.call233⟩|refine cpe h2 ?_|exact⟨Tryz.call235⟩|refine cpe h3 ?_|exact⟨Tryz.call234⟩|refine cpe h4 ?_|exact cSd|apply qd []|refine exr ?_|refine qh ?_)
     refine zw (X:=Nat) (fun k=>⟨[(3,.a (.pp [qes l.ents,Iv l.next])),(6,.bx 0 0),(10,.i a),(13,.bx 1 0),(14,.bx 2 0),(15,.i k)],[(0,some (.cells 75 [.a jw,.i 0])),(1,some (.cells 75 [.tp 3,.i (l.next+1)])),(2,some (.cells 171 [.i 3,.s (jy fs),.a (kc fs),.i l.next])),(3,some (.tip 4 171 ((iF k).map entA)))],4⟩)
      (fun k=>k≤l.ents.length) (fun k=>l.ents.length - k) 0 (by omega) ?_ ?_
     ·skip
      repeat' (first|apply And.intro|(intro h;try exact cDd)|exact cSd|apply qd []|refine exr ?_|refine qh ?_)
      all_goals first|rfl|(simp [h0];done)|(simp [h0];rfl)
     ·rintro k hk
      by_cases hkn:k<l.ents.length
      ·have hx:l.ents[k]? = some l.ents[k]:=List.getElem?_eq_getElem hkn
       have hxm:(l.ents.map entA)[k]? = some (entA l.ents[k]):=by rw [List.getElem?_map,hx];rfl
       have htk:=hst k _ hx
       have htl:=hll k hk
       rw [List.length_map] at htl
       generalize l.ents[k]=e' at hx hxm htk
       by_cases hki:j=k+1
       ·rw [if_pos hki] at htk
        apply qg []
        repeat' (first|apply And.intro|(intro h;try exact cDd)|(refine Exists.intro (k) ⟨by omega,_,hxm,?_⟩)|(refine Exists.intro (k+1) ⟨by omega,by omega,?_⟩)|exact absurd hki (by omega)|exact cSd|apply qd []|refine exr ?_|refine qh ?_)
        all_goals first|(rw [htk];simp;done)|omega|(simp;omega)
       ·rw [if_neg hki] at htk
        apply qg []
        repeat' (first|apply And.intro|(intro h;try exact cDd)|(refine Exists.intro (k) ⟨by omega,_,hxm,?_⟩)|(refine Exists.intro (k+1) ⟨by omega,by omega,?_⟩)|exact absurd (by omega) hki|exact cSd|apply qd []|refine exr ?_|refine qh ?_)
        all_goals first|(rw [htk];simp;done)|omega|(simp;omega)
      ·have hkn:k=l.ents.length:=by omega
       subst hkn
       apply qg []
       repeat' (first|apply And.intro|(intro h;try exact cDd)|exact cSd|apply qd []|refine exr ?_|refine qh ?_)
    ·have hz:=h00 hor
     clear h00 h0
     subst hor
     apply qg []
     repeat' (first|apply And.intro|(intro h;try exact cDd)|exact⟨Tryz.call117⟩|refine cpe h1 ?_|exact⟨Tryz.call233⟩|refine cpe h2 ?_|exact⟨Tryz.call235⟩|refine cpe h3 ?_|exact⟨Tryz.call234⟩|refine cpe h4 ?_|exact cSd|apply qd []|refine exr ?_|refine qh ?_)
     refine zw (X:=Nat) (fun k=>⟨[(3,.a (.pp [qes l.ents,Iv l.next])),(6,.bx 0 0),(10,.i (-1)),(13,.bx 1 0),(14,.bx 2 0),(15,.i k)],[(0,some (.cells 75 [.a jw,.i 0])),(1,some (.cells 75 [.tp 3,.i (l.next+1)])),(2,some (.cells 171 [.i 3,.s (jy fs),.a (kc fs),.i l.next])),(3,some (.tip 4 171 ((iF k).map entA)))],4⟩)
      (fun k=>k≤l.ents.length) (fun k=>l.ents.length - k) 0 (by omega) ?_ ?_
     ·skip
      repeat' (first|apply And.intro|(intro h;try exact cDd)|exact cSd|apply qd []|refine exr ?_|refine qh ?_)
      all_goals first|rfl|(simp [hz];done)|(simp [hz];rfl)
     ·rintro k hk
      by_cases hkn:k<l.ents.length
      ·have hx:l.ents[k]? = some l.ents[k]:=List.getElem?_eq_getElem hkn
       have hxm:(l.ents.map entA)[k]? = some (entA l.ents[k]):=by rw [List.getElem?_map,hx];rfl
       have htk:=hst k _ hx
       have htl:=hll k hk
       rw [List.length_map] at htl
       generalize l.ents[k]=e' at hx hxm htk
       rw [if_neg (by omega)] at htk
       apply qg []
       repeat' (first|apply And.intro|(intro h;try exact cDd)|(refine Exists.intro (k) ⟨by omega,_,hxm,?_⟩)|(refine Exists.intro (k+1) ⟨by omega,by omega,?_⟩)|exact cSd|apply qd []|refine exr ?_|refine qh ?_)
       all_goals first|(rw [htk];simp;done)|omega|(simp;omega)
      ·have hkn:k=l.ents.length:=by omega
       subst hkn
       apply qg []
       repeat' (first|apply And.intro|(intro h;try exact cDd)|exact cSd|apply qd []|refine exr ?_|refine qh ?_)
  ·obtain⟨p,n,hp,hn,hn0⟩:=qpn fs hc
   rw [hp,hn] at h2
   rw [if_neg hc,hp,hn]
   rcases hor with hor | ⟨hor,hor2⟩
   ·apply qg []
    repeat' (first|apply And.intro|(intro h;try exact cDd)|exact⟨Tryz.call117⟩|refine cpe h1 ?_|exact⟨Tryz.call233⟩|refine cpe h2 ?_|exact cSd|apply qd []|refine exr ?_|refine qh ?_)
   ·apply qg []
    repeat' (first|apply And.intro|(intro h;try exact cDd)|exact⟨Tryz.call117⟩|refine cpe h1 ?_|exact⟨Tryz.call233⟩|refine cpe h2 ?_|exact cSd|apply qd []|refine exr ?_|refine qh ?_)
end Go.Proofs.YtneejjefekdgjaaGreatDoor
namespace Go.Pl
open Go Go.Proofs Go.Av
def LM (l:za):Prop:=l.many=cntF l.ents
theorem qfx (a b:List EntV):cntF (a++b)=cntF a+cntF b:=by simp [cntF]
theorem qif (e:EntV) (b:List EntV):cntF (e::b)=(if 0<e.id then 1 else 0)+cntF b:=by
 by_cases h:0<e.id <;> simp [cntF,h] <;> omega
theorem q3v {l:List EntV} {i:Nat} {e:EntV} (h:l[i]? = some e):l=l.take i++e::l.drop (i+1):=by
 obtain⟨hi,rfl⟩:=List.getElem?_eq_some_iff.1 h
 rw [← List.drop_eq_getElem_cons hi,List.take_append_drop]
theorem q79 {l:za} (h:LM l) (id:Int) (fs:List Fld):LM (qb1 l id fs).2:=by
 unfold qb1
 split
 ·exact h
 ·split
  ·unfold qmw
   split
   ·rename_i e he
    unfold LM at h ⊢
    simp only
    rw [h]
    have h1:=q3v he
    have hi:=lt_of_getElem? he
    rw [List.set_eq_take_append_cons_drop,if_pos hi]
    conv=>lhs;rw [h1]
    rw [qfx,qfx,qif,qif]
   ·exact h
  ·exact h
theorem q9p {l:za} (h:LM l) (id:Int):LM (delF l id).2:=by
 unfold delF
 split
 ·exact h
 ·rename_i hn
  rcases qfj l id with g | ⟨i,e,g,he,hid,hid1⟩
  ·exact absurd (by rw [g];decide) hn
  ·rw [g,Int.toNat_natCast]
   unfold LM delL at *
   simp only
   rw [h]
   have h1:=q3v he
   conv=>lhs;rw [h1]
   rw [qfx,qfx,qif,if_pos (by omega)]
   omega
theorem q92 {l:za} (h:LM l) (hn:1≤l.next) (id:Int) (fs:List Fld):LM (insF l id fs).2.2:=by
 unfold insF
 split
 ·exact h
 ·split
  ·split
   ·exact h
   ·unfold LM insL at *
    simp only
    rw [h,qfx,qif,if_pos (by simp only;omega)]
    conv=>lhs;rw [← List.take_append_drop (atF l id+1).toNat l.ents]
    rw [qfx]
    omega
  ·exact h
theorem qw5:∀ (its:List zq) (l:za),LM l→1≤l.next→LM (its.foldl qas l)∧1≤(its.foldl qas l).next
 | [],l,h,hn=>⟨h,hn⟩
 |x::r,l,h,hn=>by
  rw [List.foldl_cons]
  unfold qas
  split
  ·refine qw5 r _ ?_ (by simp only;omega)
   unfold LM at *
   simp only
   rw [qle,if_pos (by simp only;omega),h]
   omega
  ·refine qw5 r _ ?_ hn
   unfold LM at *
   simp only
   rw [qle,if_neg (by simp),h]
   omega
theorem zco (its:List zq):LM (ofF its):=(qw5 its ⟨[],1,0⟩ (by simp [LM,cntF]) (by decide)).1
end Go.Pl
namespace Go.Proofs.YtneejjefekdgjaaGreatDoor
open Go Go.Av Go.RowKit Go.Proofs Go.Pl
theorem zar {l:za} (h:LM l) (hn:1≤l.next) (x:zh):LM (oneF l x).2.2:=by
 unfold oneF
 split
 ·exact q79 h _ _
 ·split
  ·exact q9p h _
  ·exact q92 h hn _ _
theorem q2f (n:Nat) (l:za) (x:zh) (st:List AObj) (hB:LB n l) (hM:LM l) (hK:KeyB x.fields) (hl:x.fields.length<1000000):qp E 97 [xk l,qaw x] st fun r st'=>r = .tu [xk (oneF l x).2.2,Iv (oneF l x).1,Iv (oneF l x).2.1.code]∧st'=st:=by
 refine z0 [.a (xk l),.a (qaw x)] (qdt (qci _) (qy _) (qy _)) Tryz.func97 rfl rfl (fun _=>rfl) rfl fun S0=>?_
 have g1:=hB.len;have g2:=hB.nx0;have g3:=hB.nx1;have g4:=hB.small
 unfold oneF
 by_cases h1:x.kind=1
 ·rw [if_pos h1]
  have hc:=fun st=>qzg l x.id x.fields st (by omega) hK hl
  unfold rlR at hc
  generalize qb1 l x.id x.fields=r at hc
  apply qg []
  repeat' (first|apply And.intro|(intro h;try exact cDd)|exact⟨Tryz.call159⟩|refine cpe hc ?_|exact cSd|apply qd []|refine exr ?_|refine qh ?_)
 ·rw [if_neg h1]
  by_cases h2:x.kind=2
  ·rw [if_pos h2]
   have hc:=fun st=>q2b l x.id st (by omega)
   generalize delF l x.id=r at hc
   apply qg []
   repeat' (first|apply And.intro|(intro h;try exact cDd)|exact⟨Tryz.call160⟩|refine cpe hc ?_|exact cSd|apply qd []|refine exr ?_|refine qh ?_)
  ·rw [if_neg h2]
   have hc:=fun st=>q2d l x.id x.fields st (by omega) ⟨by omega,by omega⟩ hM hK hl
   unfold rlR4 at hc
   generalize insF l x.id x.fields=r at hc
   apply qg []
   repeat' (first|apply And.intro|(intro h;try exact cDd)|exact⟨Tryz.call161⟩|refine cpe hc ?_|exact cSd|apply qd []|refine exr ?_|refine qh ?_)
def doR (l:za) (r:ErrV×za×List Int):AV:=if r.1 = .no then .tu [xk r.2.1,qg1 r.2.2,Iv (-9),Iv 0] else .tu [xk l,qg1 [],Iv r.1.pos,Iv r.1.code]
theorem q6w (l:za) (r:ErrV×za×List Int):Pure (doR l r):=by
 unfold doR
 split
 ·exact qoo (qci _) (qd3 _) (qy _) (qy _)
 ·exact qoo (qci _) (qd3 _) (qy _) (qy _)
theorem qtn (n:Nat) (l:za) (b:List zh) (st:List AObj) (hB:LB n l) (hM:LM l) (hn:n+40<900000) (hE:∀ x∈b,EdB x) (hl:b.length<1000000):qp E 47 [xk l,ye b] st fun r st'=>r=doR l (doF l b)∧st'=st:=by
 refine z0 [.a (xk l),.a (ye b)] (q6w _ _) Tryz.func47 rfl rfl (fun _=>rfl) rfl fun S0=>?_
 have hck:=fun st=>qxl b st hE (by omega)
 have hmi:(b.map qaw).length=b.length:=by simp
 unfold doF
 by_cases he:eErr b = .no
 ·rw [he] at hck
  rw [if_pos he]
  obtain⟨hb1,hb40,hg⟩:=qmm he
  apply qg []
  repeat' (first|apply And.intro|(intro h;try exact cDd)|exact⟨Tryz.call96⟩|refine cpe hck ?_|exact cSd|apply qd []|refine exr ?_|refine qh ?_)
  refine zw (X:=Nat×za×List Int) (fun (k,q,ids)=>⟨[(1,.a (ye b)),(2,.a (.pp [qes l.ents,Iv l.next])),(4,.bx 0 0),(10,.bx 1 0),(11,.tp 2),(12,.i k)],[(0,some (.cells 75 [.a jw,.i 0])),(1,some (.cells 75 [.a (qes q.ents),.i q.next])),(2,some (.tip 1 3 (ids.map fun x=>Iv x)))],3⟩)
   (fun (k,q,ids)=>k≤b.length∧LB (n+k) q∧LM q∧ids.length≤k∧qa4 k (b.drop k) q ids=qa4 0 b l []) (fun (k,q,ids)=>b.length - k) (0,l,[]) ⟨by omega,hB,hM,by simp,rfl⟩ ?_ ?_
  ·skip
   repeat' (first|apply And.intro|(intro h;try exact cDd)|exact cSd|apply qd []|refine exr ?_|refine qh ?_)
   all_goals first|rfl|(simp;done)
  ·rintro⟨k,q,ids⟩ ⟨hk,hq,hqm,hil,hrun⟩
   by_cases hkn:k<b.length
   ·have hx:b[k]? = some b[k]:=List.getElem?_eq_getElem hkn
    have hxm:(b.map qaw)[k]? = some (qaw b[k]):=by rw [List.getElem?_map,hx];rfl
    have hxE:=hE b[k] (List.getElem_mem hkn)
    have hxf:=(qrm (hg b[k] (List.getElem_mem hkn))).1
    rw [List.drop_eq_getElem_cons hkn,qa4] at hrun
    have hidl:(ids.map fun x=>Iv x).length=ids.length:=by simp
    generalize b[k]=x at hx hxm hxE hxf hrun
    have hon:=fun st=>q2f (n+k) q x st hq hqm hxE.keys (by omega)
    have hlb:=qrv hq (by omega) x
    have hlm:=zar hqm hq.nx0 x
    have hcd:=fun h=>ql1 (l:=q) (x:=x) h
    generalize oneF q x=o at hon hlb hlm hcd hrun
    obtain⟨id,e,q'⟩:=o
    dsimp only at hon hlb hlm hcd hrun
    by_cases hen:e = .no
    ·subst hen
     rw [if_pos rfl] at hrun
     by_cases h0:0<id
     ·rw [if_pos h0] at hrun
      apply qg []
      repeat' (first|apply And.intro|(intro h;try exact cDd)|(refine Exists.intro (k) ⟨by omega,_,hxm,?_⟩)|exact⟨Tryz.call97⟩|refine cpe hon ?_|(refine Exists.intro (k+1,q',ids++[id]) ⟨⟨by omega,hlb,hlm,by simp;omega,hrun⟩,by simp only;omega,?_⟩)|exact cSd|apply qd []|refine exr ?_|refine qh ?_)
      all_goals first|(simp;done)|(simp;omega)
     ·rw [if_neg h0] at hrun
      apply qg []
      repeat' (first|apply And.intro|(intro h;try exact cDd)|(refine Exists.intro (k) ⟨by omega,_,hxm,?_⟩)|exact⟨Tryz.call97⟩|refine cpe hon ?_|(refine Exists.intro (k+1,q',ids) ⟨⟨by omega,hlb,hlm,by first|omega|(simp only;omega),hrun⟩,by simp only;omega,?_⟩)|exact cSd|apply qd []|refine exr ?_|refine qh ?_)
      all_goals first|(simp;done)|(simp;omega)
    ·rw [if_neg hen] at hrun
     rw [← hrun]
     have hcd:=hcd hen
     have hA:doR l (ErrV.at' (↑k) e.code,q,ids) = .tu [xk l,qg1 [],Iv k,Iv e.code]:=by
      unfold doR
      rw [if_neg (by simp)]
      try rfl
     rw [hA]
     generalize ErrV.code e=c at hon hcd
     apply qg []
     repeat' (first|apply And.intro|(intro h;try exact cDd)|(refine Exists.intro (k) ⟨by omega,_,hxm,?_⟩)|exact⟨Tryz.call97⟩|refine cpe hon ?_|exact cSd|apply qd []|refine exr ?_|refine qh ?_)
   ·have hkn:k=b.length:=by omega
    subst hkn
    rw [List.drop_length,qa4] at hrun
    rw [← hrun]
    unfold doR
    rw [if_pos rfl]
    apply qg []
    repeat' (first|apply And.intro|(intro h;try exact cDd)|exact cSd|apply qd []|refine exr ?_|refine qh ?_)
 ·obtain⟨p,m,hp,hm,h0⟩:=q9q b
  have hz:m≠0:=fun h=>he (h0.1 h)
  rw [if_neg he]
  unfold doR
  simp only
  rw [if_neg he]
  rw [hp,hm] at hck ⊢
  apply qg []
  repeat' (first|apply And.intro|(intro h;try exact cDd)|exact⟨Tryz.call96⟩|refine cpe hck ?_|exact cSd|apply qd []|refine exr ?_|refine qh ?_)
end Go.Proofs.YtneejjefekdgjaaGreatDoor
namespace Go.Pl
open Go Go.Proofs Go.Proofs.YtneejjefekdgjaaGreatDoor
theorem qqs (x:zq) (r:List zq):qam (x::r)=x.raw++qam r:=by simp [qam]
theorem q73 {its:List zq} {x:zq} (h:x∈its):x.raw.length≤(qam its).length:=by
 induction its with
 |nil=>simp at h
 |cons y r ih=>
  rw [qqs,List.length_append]
  rcases List.mem_cons.1 h with rfl|h
  ·omega
  ·have:=ih h
   omega
structure PR (m:Nat) (p:PSt):Prop where
 tot:(qam p.items).length+(zv p.block).length≤m
 fl:∀ x∈p.items,x.fields.length<900000
theorem qll {m:Nat} {p:PSt} (h:PR m p):PR m (kw p).2:=by
 unfold kw
 split
 ·exact h
 ·split
  ·exact h
  ·split
   ·exact h
   ·exact⟨h.tot,h.fl⟩
theorem q3u {m:Nat} {p:PSt} (h:PR m p) (hf:p.fields.length<900000):PR m (qaq p):=by
 have ht:=h.tot
 unfold qaq
 split
 ·exact⟨by simp only [zv,List.flatMap_nil,List.length_nil];omega,h.fl⟩
 ·refine⟨?_,fun x hx=>?_⟩
  ·simp only [qe9,qfa,List.length_append]
   simp only [zv,List.flatMap_nil,List.length_nil] at ht ⊢
   omega
  ·simp only [List.mem_append,List.mem_singleton] at hx
   rcases hx with hx|rfl
   ·exact h.fl x hx
   ·exact hf
theorem qrk {m n:Nat} {p:PSt} (h:PR m p) (hB:PB n p) (hs:n+1<900000):PR m (endP p).2:=by
 unfold endP
 split
 ·exact h
 ·have:=(qgj hB hs).fields
  exact q3u (qll h) (by omega)
theorem q23 {m n:Nat} {p:PSt} {no:Int} {text:qe} {ended:Bool} {kind:Int} (h:PR m p) (hB:PB n p) (hs:n+1<900000):PR m (ki p no text ended kind).2:=by
 unfold ki
 split
 ·split
  ·exact h
  ·split
   ·exact⟨h.tot,h.fl⟩
   ·exact qll ⟨h.tot,h.fl⟩
 ·split
  ·exact qrk h hB hs
  ·exact qll h
theorem qa3 (a b:List qe):zv (a++b)=zv a++zv b:=by simp [zv]
theorem q8o {m n:Nat} {p:PSt} {no:Int} {text:qe} {ended:Bool} (h:PR m p) (hB:PB n p) (hs:n+1<900000):PR (m+text.length+1) (yr p no text ended).2:=by
 have more:∀ {q:PSt},PR m q→PR (m+text.length+1) q:=fun h=>⟨by have:=h.tot;omega,h.fl⟩
 have h2:PR m (ki p no text ended (qs text)).2:=q23 h hB hs
 have ht:=h2.tot
 unfold yr
 split
 ·exact more h
 ·split
  ·exact more h
  ·split
   ·refine⟨?_,fun x hx=>?_⟩
    ·simp only [qe9,qfa,List.length_append,List.length_cons,List.length_nil]
     omega
    ·simp only [List.mem_append,List.mem_singleton] at hx
     rcases hx with hx|rfl
     ·exact h2.fl x hx
     ·simp
   ·split
    ·refine⟨?_,h2.fl⟩
     simp only [wr,qa3,List.length_append]
     simp only [zv,List.flatMap_cons,List.flatMap_nil,List.length_append,List.length_cons,List.length_nil] at ht ⊢
     omega
    ·refine⟨?_,h2.fl⟩
     simp only [qa3,List.length_append]
     simp only [zv,List.flatMap_cons,List.flatMap_nil,List.length_append,List.length_cons,List.length_nil] at ht ⊢
     omega
theorem zaz:∀ (n:Nat) (rest:qe) (k m:Nat) (p:PSt),rest.length≤n→PB (4 * k) p→PR m p→k+rest.length≤60000→PR (m+2 * rest.length) (runL k (vm rest) p).2:=by
 intro n
 induction n with
 |zero=>
  intro rest k m p hr hB hR hk
  obtain rfl:rest=[]:=List.eq_nil_of_length_eq_zero (by omega)
  rw [qai,runL]
  exact qrk hR hB (by omega)
 |succ n ih=>
  intro rest k m p hr hB hR hk
  by_cases hne:rest=[]
  ·subst hne
   rw [qai,runL]
   exact qrk hR hB (by omega)
  ·have hu:=qct 10 rest
   have hpl:=qcf 10 rest
   have hr0:0<rest.length:=List.length_pos_iff.2 hne
   rw [qbb hne]
   simp only [runL]
   have hB2:=qow (no:=k) (text:=upto 10 rest) (ended:=decide (10∈rest)) hB (by omega) (by omega)
   have hR2:=q8o (no:=k) (text:=upto 10 rest) (ended:=decide (10∈rest)) hR hB (by omega)
   split
   ·exact⟨by have:=hR.tot;simp only;omega,hR.fl⟩
   ·have:=ih (past 10 rest) (k+1) _ _ (by omega) hB2 hR2 (by omega)
    exact⟨by have:=this.tot;omega,this.fl⟩
theorem q95 (text:qe):(qam (itsE text)).length≤120000∧∀ x∈itsE text,x.fields.length<900000:=by
 unfold itsE
 split
 ·simp [qam]
 ·have h:=zaz text.length text 0 0 p0 (Nat.le_refl _) q13 ⟨by simp [p0,qam,zv],by simp [p0]⟩ (by omega)
  unfold wx
  split
  ·simp [qam]
  ·have:=h.tot
   exact⟨by simp only;omega,h.fl⟩
def LI (l:za):Prop:=∀ e∈l.ents,e.x.raw.length≤1000000∧e.x.fields.length<900000
theorem q4v:∀ (its:List zq) (l:za),LI l→(∀ x∈its,x.raw.length≤1000000∧x.fields.length<900000)→LI (its.foldl qas l)
 | [],l,h,_=>h
 |x::r,l,h,hx=>by
  rw [List.foldl_cons]
  refine q4v r _ ?_ fun y hy=>hx y (by simp [hy])
  have h1:=hx x (by simp)
  unfold qas
  split
  ·intro e he
   simp only [List.mem_append,List.mem_singleton] at he
   rcases he with he|rfl
   ·exact h e he
   ·exact h1
  ·intro e he
   simp only [List.mem_append,List.mem_singleton] at he
   rcases he with he|rfl
   ·exact h e he
   ·exact h1
theorem zcn (text:qe):LI (ofF (itsE text)):=by
 obtain⟨h1,h2⟩:=q95 text
 refine q4v _ _ (by simp [LI]) fun x hx=>⟨?_,h2 x hx⟩
 have:=q73 hx
 omega
theorem qpf:∀ (its:List zq) (b:Bool),(∀ x∈its,x.raw.length≤1000000)→(qam (qba b its)).length≤1000001 * its.length
 | [],b,h=>by simp [qba,qam]
 |x::r,b,h=>by
  have ih:=qpf r (decide (x.kind≠1)) fun y hy=>h y (by simp [hy])
  have hx:=h x (by simp)
  rw [qba,qe9,List.length_append]
  split
  ·rw [qqs,qfa]
   simp only [List.length_append,List.length_cons,List.length_nil]
   omega
  ·rw [qfa]
   simp only [List.length_cons]
   omega
theorem q8p {n:Nat} {l:za} (hB:LB n l) (h:LI l):(qut l).length≤1000000000000:=by
 have h1:=qpf (km l) false fun x hx=>by
  obtain⟨e,he,rfl⟩:=List.mem_map.1 hx
  exact (h e he).1
 have h2:=hB.len
 have h3:=hB.small
 unfold qut qgf
 have:(km l).length=l.ents.length:=by simp [km]
 omega
end Go.Pl
namespace Go.Proofs.YtneejjefekdgjaaGreatDoor
open Go Go.Av Go.RowKit Go.Proofs Go.Pl
theorem q94 {n:Nat} {l:za} (hB:LB n l) (h:LI l):ItsB (km l):=by
 have h1:=hB.len
 have h2:=hB.small
 refine⟨by simp [km];omega,fun x hx=>?_⟩
 obtain⟨e,he,rfl⟩:=List.mem_map.1 hx
 have:=(h e he).2
 omega
theorem qnd:∀ (b:List zh) (k:Nat) (l:za) (ids:List Int),(qa4 k b l ids).1≠.no→(qa4 k b l ids).1.code≠0
 | [],k,l,ids,h=>by simp [qa4] at h
 |x::r,k,l,ids,h=>by
  unfold qa4 at h ⊢
  split
  ·rename_i he
   rw [if_pos he] at h
   exact qnd r _ _ _ h
  ·rename_i he
   exact ql1 he
theorem qn4 {l:za} {b:List zh} (h:(doF l b).1≠.no):(doF l b).1.code≠0:=by
 unfold doF at h ⊢
 split
 ·rename_i he
  rw [if_pos he] at h
  exact qnd _ _ _ _ h
 ·rename_i he
  exact fun h'=>he ((qsy b).1 h')
theorem q7v {text:qe} (h:wc text≠.no):(wc text).code≠0:=by
 cases hpe:wc text with
 |no=>exact absurd hpe h
 |num n=>have:=qqo hpe;simp [ErrV.code];omega
 |at' a n=>have:=qth hpe;simpa [ErrV.code] using this
theorem zcp {e:ErrV} (h:e≠.no→e.code≠0):okE e:=by
 cases e with
 |no=>trivial
 |num n=>exact h (by simp)
 |at' a n=>exact h (by simp)
end Go.Proofs.YtneejjefekdgjaaGreatDoor
namespace Go.Pl
open Go Go.Proofs
def qb9:List EntV→Option (EntV×List EntV)
 | []=>none
 |e::r=>if 0<e.id then some (e,r) else qb9 r
def stzF (es:List EntV):List (Int×List Fld):=(es.filter fun e=>decide (0<e.id)).map fun e=>(e.id,e.x.fields)
theorem qqf:∀ {r:List EntV},qb9 r=none→stzF r=[]
 | [],_=>rfl
 |e::r,h=>by
  unfold qb9 at h
  split at h
  ·simp at h
  ·rename_i h0
   have:=qqf h
   simpa [stzF,h0] using this
theorem qqg:∀ {r:List EntV} {e:EntV} {q:List EntV},qb9 r=some (e,q)→0<e.id∧e∈r∧stzF r=(e.id,e.x.fields)::stzF q∧q.length<r.length∧∀ y∈q,y∈r
 |x::r,e,q,h=>by
  unfold qb9 at h
  split at h
  ·rename_i h0
   simp only [Option.some.injEq,Prod.mk.injEq] at h
   obtain⟨rfl,rfl⟩:=h
   exact⟨h0,by simp,by simp [stzF,h0],by simp,fun y hy=>by simp [hy]⟩
  ·rename_i h0
   obtain⟨h1,h2,h3,h4,h5⟩:=qqg h
   exact⟨h1,by simp [h2],by simpa [stzF,h0] using h3,by simp;omega,fun y hy=>by simp [h5 y hy]⟩
end Go.Pl
namespace Go.Proofs.YtneejjefekdgjaaGreatDoor
open Go Go.Av Go.RowKit Go.Proofs Go.Pl
theorem zcs {m:Nat} {T:TypeId} {S':List AObj} {cs0:List AV} (h:S'.length=m∨∃ cs,S'[m]? = some (.cells 0 T cs)):∃ cs,(S'++[AObj.cells 0 T cs0])[m]? = some (.cells 0 T cs):=by
 rcases h with rfl | ⟨cs,h⟩
 ·exact⟨cs0,by simp⟩
 ·exact⟨cs,by rw [List.getElem?_append_left (lt_of_getElem? h)];exact h⟩
theorem zct {m:Nat} {T:TypeId} {S':List AObj} (h:S'.length=m∨∃ cs,S'[m]? = some (.cells 0 T cs)):m≤S'.length:=by
 rcases h with rfl | ⟨cs,h⟩
 ·omega
 ·exact Nat.le_of_lt (lt_of_getElem? h)
theorem qr8 {L:List (Tmp×AV)} {st:List AObj} {df:List Nat} {s:AS} (h:StA L st df s):StA L (st++[]) df s:=by
 rw [List.append_nil]
 exact h
theorem q88 (l:za) (o kb n m:Nat) (I:List EntV→List AObj→Prop) (D:List AObj→Prop) (S:List AObj) (hm:S.length=m) (hn:n≤m) (hl:l.ents.length<1000000) (h0:I l.ents S)
  (hI:∀ r S',I r S'→S'[kb]? = some (.cells 0 42 [y3 l]))
  (hst:∀ r S' S'',Ext n S' S''→I r S'→I r S'')
  (hY:∀ r e q S' cs,I r S'→S'[m]? = some (.cells 0 152 cs)→qb9 r=some (e,q)→qdj E o [entA e] S' fun b S''=>S''[m]? = some (.cells 0 152 cs)∧(b=true→I q S'')∧(b=false→D S'')) :
  qp E 128 [.yd o,.bx kb 0 0] S fun r S'=>(∃ i,qb9 i=none∧I i S')∨D S':=by
 refine qt Tryz.func128 rfl (Nat.le_of_ble_eq_true rfl) ?_
 have hb:=hI _ S h0
 have hmi:(l.ents.map entA).length=l.ents.length:=by simp
 repeat' (first|apply qr|apply ze|apply ql|apply qk|apply qo|(apply qc;exact rfl;apply cd_f;exact cRa)|(apply zu;(iterate 4 exact rfl))|(apply zg;(iterate 4 exact rfl))|(apply zk;(iterate 3 exact rfl))|(apply zo;exact rfl;exact rfl)|(apply z4;(iterate 3 exact rfl))|apply q8|(apply qkz;exact rfl;exact rfl;exact hb;exact rfl;exact rfl))
 refine yl (fun (k:Nat) s=>∃ S' r,I r S'∧(S'.length=m∨∃ cs,S'[m]? = some (.cells 0 152 cs))∧k≤l.ents.length∧qb9 r=qb9 (l.ents.drop k)∧StA [(0,.yd o),(10,.sl 4 (l.ents.map entA) none),(11,Iv l.ents.length),(12,Iv k)] (S'++[]) [] s) (fun k=>l.ents.length - k) 0
  ⟨_,_,hst _ _ _ (qhe (by omega)) h0,.inl (by simpa using hm),by omega,by simp,qr8 (v6 ⟨rfl,rfl,congrArg (fun n:Nat=>Iv (n:Int)) hmi,rfl,trivial⟩)⟩ ?_
 rintro k _ ⟨S',r,hi,hown,hk,hnx,t,rfl⟩
 have hml:=zct hown
 by_cases hkn:k<l.ents.length
 ·have hx:l.ents[k]? = some l.ents[k]:=List.getElem?_eq_getElem hkn
  have hxm:(l.ents.map entA)[k]? = some (entA l.ents[k]):=by rw [List.getElem?_map,hx];rfl
  rw [List.drop_eq_getElem_cons hkn,qb9] at hnx
  generalize l.ents[k]=e at hx hxm hnx
  obtain⟨cs,hcs⟩:=zcs (cs0:=(entA e).cells) hown
  by_cases he:0<e.id
  ·rw [if_pos he] at hnx
   repeat' (first|apply qr|apply ze|apply ql|apply qk|apply qo|(apply qw;(iterate 3 exact rfl))|(apply qv;(iterate 4 exact rfl))|(apply v7;exact cAo)|(apply qc;exact rfl;apply wa;exact cAo)|(apply jj;exact rfl;exact rfl)|(apply q5;(iterate 3 exact rfl))|(apply zk;(iterate 3 exact rfl))|(apply zn;(iterate 5 exact rfl))|(apply zm;(iterate 11 exact rfl))|apply q8|(apply x9 (n:=k);(iterate 5 exact rfl);exact hxm))
   apply qi7 (o:=o) rfl
   refine qdj.mono (hY r e _ _ cs (hst _ _ _ (qhe (by omega)) hi) hcs hnx) ?_
   rintro b S2 ⟨h1,h2,h3⟩
   show AOps _ _ _ _ _ _ _
   cases b
   ·skip
    repeat' (first|apply qk|(apply jv;exact rfl)|(apply qv;(iterate 4 exact rfl))|(apply v7;exact cAo)|(apply qf;exact rfl;apply xq;exact cAo)|(apply qc;exact rfl;apply yz;exact cRa)|apply zb)
    exact qq rfl (qdm rfl) (.inr (h3 rfl))
   ·skip
    repeat' (first|apply ql|apply qk|apply qo|(apply jv;exact rfl)|(apply qv;(iterate 4 exact rfl))|(apply v7;exact cAo)|(apply qf;exact rfl;apply xq;exact cAo)|(apply qc;exact rfl;apply qaa;exact cRa)|(apply zp;exact rfl;exact rfl;exact qn (by omega) (by omega))|apply q8)
    exact⟨k+1,⟨_,_,h2 rfl,.inr ⟨cs,h1⟩,by omega,rfl,qr8 (v6 ⟨rfl,rfl,rfl,rfl,trivial⟩)⟩,by omega⟩
  ·rw [if_neg he] at hnx
   repeat' (first|apply qr|apply ze|apply ql|apply qk|apply qo|(apply qw;(iterate 3 exact rfl))|(apply qv;(iterate 4 exact rfl))|(apply vz;exact cAo)|(apply qf;exact rfl;apply x3;exact cAo)|(apply qc;exact rfl;apply wa;exact cAo)|(apply qc;exact rfl;apply cd_f;exact cRa)|(apply zp;exact rfl;exact rfl;exact qn (by omega) (by omega))|(apply jj;exact rfl;exact rfl)|(apply q5;(iterate 3 exact rfl))|(apply zk;(iterate 3 exact rfl))|(apply zn;(iterate 5 exact rfl))|(apply zm;(iterate 11 exact rfl))|apply q8|(apply x9 (n:=k);(iterate 5 exact rfl);exact hxm))
   exact⟨k+1,⟨_,_,hst _ _ _ (qhe (by omega)) hi,.inr ⟨cs,hcs⟩,by omega,hnx,qr8 (v6 ⟨rfl,rfl,rfl,rfl,trivial⟩)⟩,by omega⟩
 ·rw [List.drop_of_length_le (by omega),qb9] at hnx
  repeat' (first|apply qr|apply ql|apply qk|(apply qw;(iterate 3 exact rfl))|(apply qc;exact rfl;apply wq;exact cAo)|apply jq)
  exact qq rfl (qdm rfl) (.inl ⟨r,hnx,hst _ _ _ (qhe (by omega)) hi⟩)
def allY (r:List EntV):Option (SV×List EntV):=(qb9 r).map fun x=>(.a (entA x.1),x.2)
theorem zbi (l:za) (hl:l.ents.length<1000000):ItC 128 42 [y3 l] (evY allY) l.ents:=⟨fun o kb n m I D S hm hn h0 hI hst hY=>by
 refine (q88 l o kb n m I D S hm hn hl h0 hI hst fun r e q S' cs hi hown hx=>?_).mono ?_
 ·refine (hY r (entA e) q S' [.cells 0 152 cs] hi (fun j y hy=>?_) (by simp [evY,allY,hx,SV.ev])).mono fun b S'' ⟨h1,h2,h3⟩=>⟨by have:=h1 0 _ rfl;simpa using this,h2,h3⟩
  match j with
  | 0=>
   simp only [List.getElem?_cons_zero,Option.some.injEq] at hy
   subst hy
   exact⟨hown,qbw rfl⟩
  |j+1=>simp at hy
 ·rintro r S' (⟨i,h1,h2⟩|h)
  ·exact .inl ⟨i,by simp [evY,allY,h1],h2⟩
  ·exact .inr h⟩
theorem zcc (l:za):x4 E 70 [.a (y3 l)] 0 (hpF []) ⟨.fn (.func 128) [] [.bx 0 0],x2 [],[(0,some (.cells 42 [.a (y3 l)]))]++ym [],1⟩:=by
 refine qap [.a (y3 l)] [] 0 (.fn (.func 128) [] [.bx 0 0]) [(0,some (.cells 42 [.a (y3 l)]))] 1 Tryz.func70 rfl rfl rfl rfl fun S F ρ=>?_
 apply qg [1]
 repeat' (first|apply And.intro|(intro h;try exact cDd)|exact cSd|apply qd [1]|refine exr ?_|refine qh ?_)
@[reducible] def stzA (x : Int × List Fld) : AV := .ag [Iv x.1, kc x.2]
@[reducible] def qay (s : List (Int × List Fld)) : AV := .sl 2 (s.map stzA) none
theorem qq5 (s:List (Int×List Fld)):Pure (qay s):=qc9 fun x hx=>by
 obtain⟨f,_,rfl⟩:=List.mem_map.1 hx
 intro y hy
 simp only [AV.cells,List.mem_cons,List.not_mem_nil,or_false] at hy
 rcases hy with rfl|rfl
 ·exact qy _
 ·exact qgz _
theorem qkp (es:List EntV):(stzF es).length≤es.length:=by
 unfold stzF
 rw [List.length_map]
 exact List.length_filter_le _ _
theorem qxy {N:Nat} {B:Bs} {C:Conf} {Q:Exit→Conf→Prop} {X:Type} {f:Operand} {p:Tmp} {asg body:Code} (l:za) (kb n0:Nat) (ks:List Nat) (I:X→Conf) (sl0:List (Nat×SV)) (P:List EntV→X→Prop) (D:Code→X→Prop) (x0:X) (h0:P l.ents x0)
  (he:EntA B.n0 C (I x0)) (hz:¬ B.dz) (hl:l.ents.length<1000000) (hsl:∀ x,(I x).sl=sl0)
  (hf:sval N sl0 f=some (.fn (.func 128) [] [.bx kb 0]))
  (hkb:∀ x,lkS (I x).hp kb=some (some (.cells 42 [.a (y3 l)])))
  (hr:∀ x,qc1 n0 ks (I x).sl (I x).hp (I x).nx=true) (h0r:(ksIn n0 ks (I x0).hp && Nat.ble B.n0 n0)=true)
  (hb:∀ r e q x,P r x→qb9 r=some (e,q)→RA E N n0 asg (fun F ρ C1=>RB E N F ρ n0 body (rndQ n0 (P q) D I) C1) ⟨(p,.a (entA e))::(I x).sl,(I x).hp,(I x).nx⟩)
  (hn:∀ r x,qb9 r=none→P r x→Q .normal (I x)) (hd:∀ c x,D c x→q09 Q c (I x)):Sm E none N B (.rangeFunc f #[p] asg body) Q C:=by
 refine qnu (zbi l hl) Tryz.call128 (fun i v j h=>?_) kb n0 [.a (y3 l)] (fun _=>rfl) ks I sl0 P D x0 h0 he hz hsl hf hkb hr h0r (fun i x v j hp h=>?_) (fun i x h hp=>?_) hd
 ·unfold allY at h
  cases hx:qb9 i with
  |none=>rw [hx] at h;simp at h
  |some y=>
   rw [hx] at h
   simp only [Option.map_some,Option.some.injEq,Prod.mk.injEq] at h
   rw [← h.1]
   try rfl
 ·unfold allY at h
  cases hx:qb9 i with
  |none=>rw [hx] at h;simp at h
  |some y=>
   rw [hx] at h
   simp only [Option.map_some,Option.some.injEq,Prod.mk.injEq] at h
   obtain⟨h1,h2⟩:=h
   rw [← h1,← h2]
   exact hb i y.1 y.2 x hp hx
 ·unfold allY at h
  cases hx:qb9 i with
  |none=>exact hn i x hx hp
  |some y=>rw [hx] at h;simp at h
theorem q1w (l:za) (st:List AObj) (hl:l.ents.length<1000000) (hI:∀ e∈l.ents,e.x.fields.length<1000000):qp E 25 [y3 l] st fun r st'=>r=qay (stzF l.ents)∧st'=st:=by
 refine z0 [.a (y3 l)] (qq5 _) Tryz.func25 rfl rfl (fun _=>rfl) rfl fun S0=>?_
 apply qg []
 repeat' (first|apply And.intro|(intro h;try exact cDd)|exact⟨Tryz.call70⟩|(refine kl (zcc l) ?_)|exact cSd|apply qd []|refine exr ?_|refine qh ?_)
 refine qxy (X:=List (Int×List Fld)) l 1 2 [0,1] (fun out=>⟨[(3,.bx 0 0),(6,.fn (.func 128) [] [.bx 1 0])],[(0,some (.cells 55 [.tp 2])),(1,some (.cells 42 [.a (y3 l)])),(2,some (.tip 2 59 (out.map stzA)))],3⟩) _
  (fun r out=>out++stzF r=stzF l.ents∧out.length+r.length≤l.ents.length∧∀ y∈r,y∈l.ents) (fun _ _=>False) [] ⟨by simp,by simp,fun _ h=>h⟩ ?_ id hl (fun _=>rfl) rfl (fun _=>rfl) (fun _=>rfl) rfl ?_ ?_ (fun _ _ h=>h.elim)
 ·skip
  repeat' (first|apply And.intro|(intro h;try exact cDd)|exact cSd|apply qd []|refine exr ?_|refine qh ?_)
 ·rintro r e q out ⟨h1,h2,h3⟩ hx
  obtain⟨g1,g2,g3,g4,g5⟩:=qqg hx
  rw [g3] at h1
  have hcl:=fun st=>qgx e.x.fields st (hI e (h3 e g2))
  have hml:(out.map stzA).length=out.length:=by simp
  refine RA.mk fun S F ρ rd=>?_
  apply qg []
  repeat' (first|apply And.intro|(intro h;try exact cDd)|(refine RB.mk fun S rd=>?_;apply qg [])|exact⟨Tryz.call71⟩|refine cpe hcl ?_|(refine Exists.intro (out++[(e.id,e.x.fields)]) ⟨⟨by rw [← h1];simp,by simp;omega,fun y hy=>h3 y (g5 y hy)⟩,?_⟩)|exact cSd|apply qd []|refine exr ?_|refine qh ?_)
  all_goals first|(simp [SV.evs,SV.ev];done)|(simp [SV.evs];omega)
 ·rintro r out hx ⟨h1,h2,h3⟩
  rw [qqf hx,List.append_nil] at h1
  rw [← h1]
  repeat' (first|apply And.intro|(intro h;try exact cDd)|exact cSd|apply qd []|refine exr ?_|refine qh ?_)
end Go.Proofs.YtneejjefekdgjaaGreatDoor
namespace Go.Pl
open Go Go.Proofs
theorem qx4 (a b:List EntV):stzF (a++b)=stzF a++stzF b:=by simp [stzF]
theorem qx5 (e:EntV):stzF [e]=if 0<e.id then [(e.id,e.x.fields)] else []:=by
 by_cases h:0<e.id <;> simp [stzF,h]
end Go.Pl
namespace Go.Proofs.YtneejjefekdgjaaGreatDoor
open Go Go.Av Go.RowKit Go.Proofs Go.Pl
theorem qr1 (l:za) (st:List AObj) (hl:l.ents.length<1000000):qp E 80 [xk l] st fun r st'=>r=qay (stzF l.ents)∧st'=st:=by
 refine z0 [.a (xk l)] (qq5 _) Tryz.func80 rfl rfl (fun _=>rfl) rfl fun S0=>?_
 obtain⟨es,nx,mn⟩:=l
 dsimp only at hl ⊢
 have hmi:(es.map entA).length=es.length:=by simp
 apply qg []
 repeat' (first|apply And.intro|(intro h;try exact cDd)|exact cSd|apply qd []|refine exr ?_|refine qh ?_)
 refine zw (X:=Nat) (fun k=>⟨[(1,.a (.pp [qes es,Iv nx])),(3,.tp 0),(4,.i k)],[(0,some (.tip 2 59 ((stzF (es.take k)).map stzA)))],1⟩) (fun k=>k≤es.length) (fun k=>es.length - k) 0 (by omega) ?_ ?_
 ·skip
  repeat' (first|apply And.intro|(intro h;try exact cDd)|exact cSd|apply qd []|refine exr ?_|refine qh ?_)
  all_goals first|rfl|(simp [stzF];done)|(simp [stzF];rfl)
 ·rintro k hk
  by_cases hkn:k<es.length
  ·have hx:es[k]? = some es[k]:=List.getElem?_eq_getElem hkn
   have hxm:(es.map entA)[k]? = some (entA es[k]):=by rw [List.getElem?_map,hx];rfl
   have htk:es.take (k+1)=es.take k++[es[k]]:=by rw [List.take_add_one,hx];rfl
   have hsl:=qkp (es.take k)
   have hsl2:(es.take k).length≤k:=by simp;omega
   generalize es[k]=e at hx hxm htk
   by_cases h0:0<e.id
   ·have e1:stzF (es.take (k+1))=stzF (es.take k)++[(e.id,e.x.fields)]:=by rw [htk,qx4,qx5,if_pos h0]
    apply qg []
    repeat' (first|apply And.intro|(intro h;try exact cDd)|(refine Exists.intro (k) ⟨by omega,_,hxm,?_⟩)|(refine Exists.intro (k+1) ⟨by omega,by omega,?_⟩)|exact cSd|apply qd []|refine exr ?_|refine qh ?_)
    all_goals first|(rw [e1];simp;done)|(simp;omega)
   ·have e1:stzF (es.take (k+1))=stzF (es.take k):=by rw [htk,qx4,qx5,if_neg h0,List.append_nil]
    apply qg []
    repeat' (first|apply And.intro|(intro h;try exact cDd)|(refine Exists.intro (k) ⟨by omega,_,hxm,?_⟩)|(refine Exists.intro (k+1) ⟨by omega,by omega,?_⟩)|exact cSd|apply qd []|refine exr ?_|refine qh ?_)
    all_goals first|(rw [e1];done)|(simp;omega)
  ·have hkn:k=es.length:=by omega
   subst hkn
   rw [List.take_length]
   apply qg []
   repeat' (first|apply And.intro|(intro h;try exact cDd)|exact cSd|apply qd []|refine exr ?_|refine qh ?_)
end Go.Proofs.YtneejjefekdgjaaGreatDoor
namespace Go.Pl
open Go Go.Proofs Go.Proofs.YtneejjefekdgjaaGreatDoor
def runT (text:qe):RunV:=(zdf (q8y text).2.base (q8y text).2.batches).2
end Go.Pl
namespace Go.Pl
open Go Go.Proofs Go.Av Go.Proofs.YtneejjefekdgjaaGreatDoor
def dupS (key:qe) (pre:List (Int×List Fld)) (x:Int×List Fld):Bool:=(wo key x.2).any fun v=>pre.any fun y=>decide (v∈wo key y.2)
def qb6 (key:qe):List (Int×List Fld)→List (Int×List Fld)→List Int
 | _,[]=>[]
 |pre,x::r=>(if dupS key pre x=true then [x.1] else [])++qb6 key (pre++[x]) r
def qdz (r:zz) (all:List (Int×List Fld)):List Int:=if y0 r then (if r.kind=7 then qb6 r.key [] all else (all.filter fun x=>decide (yc r x.2)).map Prod.fst) else []
def x7:Nat→List zz→List (Int×List Fld)→List (Int×Int)
 | _,[],_=>[]
 |i,r::rs,all=>(qdz r all).map (fun id=>((i:Int),id))++x7 (i+1) rs all
def yg (rs:List zz) (all:List (Int×List Fld)):List (Int×Int):=x7 0 rs all
def qk7 (key:qe) (L:List (qe×Int)) (pre:List (Int×List Fld)):Prop:=∀ s,0<getM s L↔(pre.any fun y=>decide (s∈wo key y.2))=true
theorem qto (n:Int) (t:qe):∀ (vs:List qe) (L:List (qe×Int)),getM t (vs.foldl (fun L s=>setM s n L) L)=if t∈vs then n else getM t L
 | [],L=>by simp
 |v::vs,L=>by
  rw [List.foldl_cons,qto n t vs,qwe]
  by_cases h:t∈vs
  ·rw [if_pos h,if_pos (by simp [h])]
  ·rw [if_neg h]
   by_cases e:t=v
   ·rw [if_pos e,if_pos (by simp [e])]
   ·rw [if_neg e,if_neg (by simp [e,h])]
theorem q8e (key:qe):qk7 key [] []:=fun s=>by simp [getM]
theorem q5k {key:qe} {L:List (qe×Int)} {pre:List (Int×List Fld)} (x:Int×List Fld) {n:Int} (hn:0<n) (h:qk7 key L pre):qk7 key ((wo key x.2).foldl (fun L s=>setM s n L) L) (pre++[x]):=fun s=>by
 rw [qto,List.any_append,Bool.or_eq_true]
 by_cases hs:s∈wo key x.2
 ·rw [if_pos hs]
  simp [hs,hn]
 ·rw [if_neg hs,h s]
  simp [hs]
theorem q8d {key:qe} {L:List (qe×Int)} {pre:List (Int×List Fld)} (h:qk7 key L pre) (x:Int×List Fld):((wo key x.2).any fun s=>decide (0<getM s L))=dupS key pre x:=by
 unfold dupS
 congr 1
 funext s
 have:=h s
 cases hb:(pre.any fun y=>decide (s∈wo key y.2)) with
 |true=>rw [hb] at this;simpa using this
 |false=>rw [hb] at this;simpa using this
theorem qsw (key:qe):∀ (r:List (Int×List Fld)) (pre:List (Int×List Fld)) (x:Int×List Fld),qb6 key pre (r++[x])=qb6 key pre r++if dupS key (pre++r) x=true then [x.1] else []
 | [],pre,x=>by simp [qb6]
 |y::r,pre,x=>by
  rw [List.cons_append,qb6,qb6,qsw key r (pre++[y]) x]
  simp
def qa6 (r:zz) (pre:List (Int×List Fld)) (x:Int×List Fld):Prop:=x.2.any (badR r)=true∨(r.kind=1∧cntR r x.2=0)∨(r.kind=2∧1<cntR r x.2)∨(r.kind=7∧dupS r.key pre x=true)
instance (r:zz) (pre:List (Int×List Fld)) (x:Int×List Fld):Decidable (qa6 r pre x):=inferInstanceAs (Decidable (_∨(_∧_)∨(_∧_)∨(_∧_)))
def qao (r:zz):List (Int×List Fld)→List (Int×List Fld)→List Int
 | _,[]=>[]
 |pre,x::t=>(if y0 r∧qa6 r pre x then [x.1] else [])++qao r (pre++[x]) t
theorem qsn {r:zz} (h:r.kind=7) (xs:List Fld):xs.any (badR r)=false:=by
 refine List.any_eq_false.2 fun f _=>?_
 unfold badR y5
 simp [h]
theorem qlc {r:zz} (hg:y0 r) (h:r.kind=7):∀ (t pre:List (Int×List Fld)),qao r pre t=qb6 r.key pre t
 | [],_=>rfl
 |x::t,pre=>by
  rw [qao,qb6,qlc hg h t]
  congr 1
  have:(y0 r∧qa6 r pre x)↔dupS r.key pre x=true:=by
   unfold qa6
   rw [qsn h]
   simp [hg,h]
  by_cases hd:dupS r.key pre x=true
  ·rw [if_pos (this.2 hd),if_pos hd]
  ·rw [if_neg fun hh=>hd (this.1 hh),if_neg hd]
theorem qlb {r:zz} (hg:y0 r) (h:r.kind≠7):∀ (t pre:List (Int×List Fld)),qao r pre t=(t.filter fun x=>decide (yc r x.2)).map Prod.fst
 | [],_=>rfl
 |x::t,pre=>by
  rw [qao,qlb hg h t]
  have:(y0 r∧qa6 r pre x)↔yc r x.2:=by
   rw [q6m h]
   unfold qa6
   simp [hg,h]
  by_cases hd:yc r x.2
  ·rw [if_pos (this.2 hd),List.filter_cons_of_pos (by simpa using hd)]
   rfl
  ·rw [if_neg fun hh=>hd (this.1 hh),List.filter_cons_of_neg (by simpa using hd)]
   rfl
theorem qna {r:zz} (hg:¬ y0 r):∀ (t pre:List (Int×List Fld)),qao r pre t=[]
 | [],_=>rfl
 |x::t,pre=>by
  rw [qao,qna hg t,if_neg fun h=>hg h.1]
  rfl
theorem qso (r:zz) (all:List (Int×List Fld)):qdz r all=qao r [] all:=by
 unfold qdz
 by_cases hg:y0 r
 ·rw [if_pos hg]
  by_cases h7:r.kind=7
  ·rw [if_pos h7,qlc hg h7]
  ·rw [if_neg h7,qlb hg h7]
 ·rw [if_neg hg,qna hg]
def qei (old now:List (Int×Int)):List (Int×Int):=now.filter fun f=> !decide (f∈old)
end Go.Pl
namespace Go.Pl
open Go
def i64 (n:Int):Prop:= -9223372036854775808≤n∧n≤9223372036854775807
end Go.Pl
namespace Go.Pl
open Go Go.Proofs Go.Av Go.Proofs.YtneejjefekdgjaaGreatDoor
def FsB (fs:List Fld):Prop:=fs.length≤40∧∀ f∈fs,f.1.length≤32∧f.2.length≤1000
theorem q4g {t:qe} (h:qs t=4):qau (jt t):=by
 unfold qs at h
 split at h
 ·omega
 ·split at h
  ·omega
  ·split at h
   ·omega
   ·split at h
    ·omega
    ·split at h
     ·rename_i hh;exact hh.2
     ·omega
theorem q50 {ls:List qe} (h:(jp ls).2=0):(jp ls).1.1.length≤32∧(jp ls).1.2.length≤1000:=by
 unfold jp at h ⊢
 split
 ·rename_i hu
  rw [if_pos hu] at h
  split
  ·rename_i h1
   rw [if_pos h1] at h
   exact absurd h (by decide)
  ·exact⟨(q4g hu.2.1).2.1,by simp only;omega⟩
 ·rename_i hu
  rw [if_neg hu] at h
  exact absurd h (by decide)
theorem q8u {prev:Bool} {t:qe} {e:Bool} {r:List (qe×Bool)} {n:Nat} {rec:Int} (h:wp prev t e r n rec=0) (hk:qs t=4):(jp (t::wm r)).2=0∧n<40:=by
 unfold wp at h
 split at h
 ·omega
 ·split at h
  ·omega
  ·split at h
   ·rename_i hu;exact absurd h hu
   ·rename_i hu
    split at h
    ·omega
    ·exact⟨Classical.not_not.1 hu,by omega⟩
theorem qvm:∀ (ls:List qe) (prev:Bool) (now x:zq),blkR prev now ls=some x→FsB now.fields→FsB x.fields
 | [],prev,now,x,h,hb=>by
  simp only [blkR,Option.some.injEq] at h
  subst h
  exact hb
 |t::r,prev,now,x,h,hb=>by
  unfold blkR at h
  split at h
  ·simp at h
  ·rename_i hw
   simp only [not_or,Classical.not_not] at hw
   split at h
   ·rename_i hk
    obtain⟨h1,h2⟩:=q8u hw.1 hk
    refine qvm r _ _ x h ⟨by simp;omega,fun f hf=>?_⟩
    rcases List.mem_append.1 hf with hf|hf
    ·exact hb.2 f hf
    ·simp only [List.mem_singleton] at hf
     subst hf
     exact q50 h1
   ·exact qvm r _ _ x h hb
theorem qwn {x:zq} (h:qdk x):FsB x.fields:=by
 rcases h with⟨t,rfl,_⟩ | ⟨ls,_,h,_⟩
 ·exact⟨by simp,by simp⟩
 ·exact qvm ls _ _ x h ⟨by simp [now0],by simp [now0]⟩
theorem qq4 {l:za} (h:GL l):∀ x∈stzF l.ents,FsB x.2:=by
 intro x hx
 unfold stzF at hx
 obtain⟨e,he,rfl⟩:=List.mem_map.1 hx
 exact qwn (h.ok e (List.mem_filter.1 he).1).1
theorem qhv {fs:List Fld} (h:FsB fs):qgs fs:=⟨by have:=h.1;omega,fun f hf=>by have:=h.2 f hf;omega⟩
theorem qn5 (key:qe):∀ (all pre:List (Int×List Fld)),(qb6 key pre all).length≤all.length
 | [],_=>by simp [qb6]
 |x::r,pre=>by
  have:=qn5 key r (pre++[x])
  rw [qb6,List.length_append]
  split
  ·simp;omega
  ·simp;omega
theorem qjt (r:zz) (all:List (Int×List Fld)):(qdz r all).length≤all.length:=by
 unfold qdz
 split
 ·split
  ·exact qn5 _ _ _
  ·rw [List.length_map];exact List.length_filter_le _ _
 ·simp
theorem qij (all:List (Int×List Fld)):∀ (rs:List zz) (i:Nat),(x7 i rs all).length≤rs.length * all.length
 | [],_=>by simp [x7]
 |r::rs,i=>by
  have h1:=qjt r all
  have h2:=qij all rs (i+1)
  rw [x7,List.length_append,List.length_map,List.length_cons,Nat.add_mul]
  omega
theorem qj3 (all:List (Int×List Fld)) (r:zz):∀ (rs:List zz) (i:Nat),x7 i (rs++[r]) all=x7 i rs all++(qdz r all).map fun id=>(((i+rs.length:Nat):Int),id)
 | [],i=>by simp [x7]
 |q::rs,i=>by
  have:=qj3 all r rs (i+1)
  have e:i+1+rs.length=i+(q::rs).length:=by rw [List.length_cons];omega
  rw [List.cons_append,x7,x7,this,List.append_assoc,e]
theorem qla (r:zz) (x:Int×List Fld):∀ (t pre:List (Int×List Fld)),qao r pre (t++[x])=qao r pre t++if y0 r∧qa6 r (pre++t) x then [x.1] else []
 | [],pre=>by simp [qao]
 |y::t,pre=>by
  rw [List.cons_append,qao,qao,qla r x t (pre++[y])]
  simp
end Go.Pl
namespace Go.Pl
open Go Go.Proofs
def fstB (p:qe→Bool):Nat→List qe→Int
 | _,[]=> -1
 |k,x::r=>if p x=true then (k:Int) else fstB p (k+1) r
theorem qwd (p:qe→Bool):∀ (xs:List qe) (k:Nat),0≤fstB p k xs↔xs.any p=true
 | [],k=>by simp [fstB]
 |x::r,k=>by
  unfold fstB
  by_cases h:p x=true
  ·rw [if_pos h]
   simp [h]
  ·rw [if_neg h,qwd p r (k+1)]
   simp [h]
end Go.Pl
namespace Go.Proofs.YtneejjefekdgjaaGreatDoor
open Go Go.Av Go.RowKit Go.Proofs Go.Pl
@[reducible] def bytA (xs : List qe) : AV := .sl 1 (xs.map fun x => Sv x) none
@[reducible] def x8 (x : Int × Int) : AV := .ag [Iv x.1, Iv x.2]
@[reducible] def xb (fs : List (Int × Int)) : AV := .sl 2 (fs.map x8) none
@[reducible] def xu (rs : List zz) : AV := .sl 5 (rs.map wu) none
theorem qf6 (fs:List (Int×Int)):Pure (xb fs):=qc9 fun x hx=>by
 obtain⟨f,_,rfl⟩:=List.mem_map.1 hx
 intro y hy
 simp only [AV.cells,List.mem_cons,List.not_mem_nil,or_false] at hy
 rcases hy with rfl|rfl <;> exact qy _
theorem qzh (rs:List zz):Pure (xu rs):=qc9 fun x hx=>by
 obtain⟨f,_,rfl⟩:=List.mem_map.1 hx
 exact q18 f
@[reducible] def qbl (L : List (qe × Int)) : List (Nat × Option SR) := [(0, some (.cells 295 [.tp 1])), (1, some (.obj (mapP (L.map (kvM keyS)))))]
@[reducible] def qpq : SV := .fn (.func 224) [] [.bx 0 0]
theorem zb0 (s:qe) (L:List (qe×Int)):x4 E 224 [.s s,.bx 0 0] 2 (hpF (qbl L)) ⟨.b (decide (0<getM s L)),x2 (qbl L),qbl L++ym (qbl L),2⟩:=by
 refine qap [.s s,.bx 0 0] (qbl L) 2 (.b (decide (0<getM s L))) (qbl L) 2 Tryz.func224 rfl rfl rfl rfl fun S F ρ=>?_
 apply qg []
 repeat' (first|apply And.intro|(intro h;try exact cDd)|(refine q7i q5j rfl rfl rfl (fun _=>rfl) rfl rfl rfl rfl ?_)|exact cSd|apply qd []|refine exr ?_|refine qh ?_)
 all_goals first|assumption|rfl|(simp;done)
theorem zb8 (xs:List qe) (L:List (qe×Int)) (hl:xs.length<1000000):x4 E 283 [.a (bytA xs),qpq] 2 (hpF (qbl L)) ⟨.i (fstB (fun s=>decide (0<getM s L)) 0 xs),x2 (qbl L),qbl L++ym (qbl L),2⟩:=by
 refine qap [.a (bytA xs),qpq] (qbl L) 2 (.i (fstB (fun s=>decide (0<getM s L)) 0 xs)) (qbl L) 2 Tryz.func283 rfl rfl rfl rfl fun S F ρ=>?_
 have hml:(xs.map fun x=>Sv x).length=xs.length:=by simp
 apply qg []
 repeat' (first|apply And.intro|(intro h;try exact cDd)|exact cSd|apply qd []|refine exr ?_|refine qh ?_)
 refine zw (X:=Nat) (fun k=>⟨[(0,.a (bytA xs)),(1,qpq),(7,.i xs.length),(8,.i k)],qbl L,2⟩) (fun k=>k≤xs.length∧fstB (fun s=>decide (0<getM s L)) k (xs.drop k)=fstB (fun s=>decide (0<getM s L)) 0 xs) (fun k=>xs.length - k) 0 ⟨by omega,by simp⟩ ?_ ?_
 ·skip
  repeat' (first|apply And.intro|(intro h;try exact cDd)|exact cSd|apply qd []|refine exr ?_|refine qh ?_)
  all_goals first|assumption|rfl|(simp;done)
 ·rintro k ⟨hk,hrun⟩
  by_cases hkn:k<xs.length
  ·have hx:xs[k]? = some xs[k]:=List.getElem?_eq_getElem hkn
   have hxm:(xs.map fun x=>Sv x)[k]? = some (Sv xs[k]):=by rw [List.getElem?_map,hx];rfl
   rw [List.drop_eq_getElem_cons hkn,fstB] at hrun
   have h1:=zb0 xs[k] L
   generalize xs[k]=s at hx hxm hrun h1
   cases hd:decide (0<getM s L) with
   |true=>
    rw [hd] at h1
    rw [hd,if_pos rfl] at hrun
    rw [← hrun]
    apply qg []
    repeat' (first|apply And.intro|(intro h;try exact cDd)|(refine Exists.intro (k) ⟨by omega,_,hxm,?_⟩)|exact⟨Tryz.call224⟩|(refine kl h1 ?_)|exact cSd|apply qd []|refine exr ?_|refine qh ?_)
    all_goals first|assumption|rfl
   |false=>
    rw [hd] at h1
    rw [hd,if_neg (by simp)] at hrun
    apply qg []
    repeat' (first|apply And.intro|(intro h;try exact cDd)|(refine Exists.intro (k) ⟨by omega,_,hxm,?_⟩)|exact⟨Tryz.call224⟩|(refine kl h1 ?_)|(refine Exists.intro (k+1) ⟨⟨by omega,hrun⟩,by omega,?_⟩)|exact cSd|apply qd []|refine exr ?_|refine qh ?_)
    all_goals first|assumption|rfl
  ·have hkn:k=xs.length:=by omega
   subst hkn
   rw [List.drop_length,fstB] at hrun
   rw [← hrun]
   apply qg []
   repeat' (first|apply And.intro|(intro h;try exact cDd)|exact cSd|apply qd []|refine exr ?_|refine qh ?_)
   all_goals first|assumption|rfl
theorem zbv (xs:List qe) (L:List (qe×Int)) (hl:xs.length<1000000):x4 E 223 [.a (bytA xs),qpq] 2 (hpF (qbl L)) ⟨.b (xs.any fun s=>decide (0<getM s L)),x2 (qbl L),qbl L++ym (qbl L),2⟩:=by
 refine qap [.a (bytA xs),qpq] (qbl L) 2 (.b (xs.any fun s=>decide (0<getM s L))) (qbl L) 2 Tryz.func223 rfl rfl rfl rfl fun S F ρ=>?_
 have h1:=zb8 xs L hl
 have h2:=qwd (fun s=>decide (0<getM s L)) xs 0
 generalize fstB (fun s=>decide (0<getM s L)) 0 xs=n at *
 cases hb:(xs.any fun s=>decide (0<getM s L)) with
 |true=>
  have h3:=h2.2 hb
  apply qg []
  repeat' (first|apply And.intro|(intro h;try exact cDd)|exact⟨Tryz.call283⟩|(refine kl h1 ?_)|exact cSd|apply qd []|refine exr ?_|refine qh ?_)
  all_goals first|assumption|rfl|(simp;omega)|omega
 |false=>
  have h3:¬ 0≤n:=fun h=>by rw [h2.1 h] at hb;cases hb
  apply qg []
  repeat' (first|apply And.intro|(intro h;try exact cDd)|exact⟨Tryz.call283⟩|(refine kl h1 ?_)|exact cSd|apply qd []|refine exr ?_|refine qh ?_)
  all_goals first|assumption|rfl|(simp;omega)|omega
theorem q3w (key:qe) (all:List (Int×List Fld)) (st:List AObj) (hl:all.length<1000000) (hf:∀ x∈all,x.2.length<1000000):qp E 142 [Sv key,qay all] st fun r st'=>r=qg1 (qb6 key [] all)∧st'=st:=by
 refine z0 [.s key,.a (qay all)] (qd3 _) Tryz.func142 rfl rfl (fun _=>rfl) rfl fun S0=>?_
 have hml:(all.map stzA).length=all.length:=by simp
 apply qg []
 repeat' (first|apply And.intro|(intro h;try exact cDd)|(refine zal ?_)|exact cSd|apply qd []|refine exr ?_|refine qh ?_)
 refine zw (X:=Nat×List (qe×Int)) (fun (k,L)=>⟨[(0,.s key),(5,.tp 2),(6,.bx 0 0),(13,.a (qay all)),(14,.i all.length),(15,.i k)],[(0,some (.cells 295 [.tp 1])),(1,some (.obj (mapP (L.map (kvM keyS))))),(2,some (.tip 1 3 ((qb6 key [] (all.take k)).map fun n=>Iv n)))],3⟩)
  (fun (k,L)=>k≤all.length∧qk7 key L (all.take k)) (fun (k,_)=>all.length - k) (0,[]) ⟨by omega,q8e key⟩ ?_ ?_
 ·skip
  repeat' (first|apply And.intro|(intro h;try exact cDd)|exact cSd|apply qd []|refine exr ?_|refine qh ?_)
  all_goals first|assumption|rfl|(simp [qb6];done)
 ·rintro⟨k,L⟩ ⟨hk,hs⟩
  by_cases hkn:k<all.length
  ·have hx:all[k]? = some all[k]:=List.getElem?_eq_getElem hkn
   have hxm:(all.map stzA)[k]? = some (stzA all[k]):=by rw [List.getElem?_map,hx];rfl
   have hxf:=hf _ (List.getElem_mem hkn)
   have htk:all.take (k+1)=all.take k++[all[k]]:=by rw [List.take_add_one,hx];rfl
   generalize all[k]=x at hx hxm hxf htk
   have hst:=q5k x (n:=(k:Int)+1) (by omega) hs
   rw [← htk] at hst
   have hdp:=q8d hs x
   have hsn:=qsw key (all.take k) [] x
   rw [← htk,List.nil_append] at hsn
   have hdl:=qn5 key (all.take k) []
   have hdl2:(all.take k).length≤all.length:=by simp;omega
   have hv:=fun st=>qyb key x.2 st (by omega)
   have hvl:=qkv key x.2
   have hc:=zbv (wo key x.2) L (by omega)
   rw [hdp] at hc
   have hvm:((wo key x.2).map fun x=>Sv x).length=(wo key x.2).length:=by simp
   have hol:((qb6 key [] (all.take k)).map fun n=>Iv n).length≤1000000:=by rw [List.length_map];omega
   have hone:([Iv x.1]:List AV).length=1:=rfl
   generalize wo key x.2=v at *
   cases hd:dupS key (all.take k) x
   case' false=>
    rw [hd] at hc
    rw [if_neg (by rw [hd];simp),List.append_nil] at hsn
    apply qg []
    repeat' (first|apply And.intro|(intro h;try exact cDd)|(refine Exists.intro (k) ⟨by omega,_,hxm,?_⟩)|exact⟨Tryz.call83⟩|refine cpe hv ?_|exact⟨Tryz.call223⟩|(refine kl hc ?_)|exact cSd|apply qd []|refine exr ?_|refine qh ?_)
   case' true=>
    rw [hd] at hc
    rw [if_pos hd] at hsn
    apply qg []
    repeat' (first|apply And.intro|(intro h;try exact cDd)|(refine Exists.intro (k) ⟨by omega,_,hxm,?_⟩)|exact⟨Tryz.call83⟩|refine cpe hv ?_|exact⟨Tryz.call223⟩|(refine kl hc ?_)|exact cSd|apply qd []|refine exr ?_|refine qh ?_)
   all_goals
    refine zw (X:=Nat) (fun j=>⟨[(0,.s key),(5,.tp 2),(6,.bx 0 0),(7,.i k),(13,.a (qay all)),(14,.i all.length),(15,.i k),(32,.a (bytA v)),(33,.i v.length),(34,.i j)],[(0,some (.cells 295 [.tp 1])),(1,some (.obj (mapP (((v.take j).foldl (fun L s=>setM s ((k:Int)+1) L) L).map (kvM keyS))))),(2,some (.tip 1 3 ((qb6 key [] (all.take (k+1))).map fun n=>Iv n)))],3⟩)
     (fun j=>j≤v.length) (fun j=>v.length - j) 0 (by omega) ?_ ?_
    ·skip
     repeat' (first|apply And.intro|(intro h;try exact cDd)|exact cSd|apply qd []|refine exr ?_|refine qh ?_)
     all_goals first|assumption|rfl|(rw [hsn];simp;done)|(rw [hsn];done)|(simp;done)
    ·rintro j hj
     by_cases hjn:j<v.length
     ·have hy:v[j]? = some v[j]:=List.getElem?_eq_getElem hjn
      have hym:(v.map fun x=>Sv x)[j]? = some (Sv v[j]):=by rw [List.getElem?_map,hy];rfl
      have hfo:(v.take (j+1)).foldl (fun L s=>setM s ((k:Int)+1) L) L=setM v[j] ((k:Int)+1) ((v.take j).foldl (fun L s=>setM s ((k:Int)+1) L) L):=by rw [List.take_add_one,hy,List.foldl_append];rfl
      generalize v[j]=s at hy hym hfo
      apply qg []
      repeat' (first|apply And.intro|(intro h;try exact cDd)|(refine Exists.intro (j) ⟨by omega,_,hym,?_⟩)|(refine q7j q5j rfl rfl rfl (fun _=>rfl) rfl (fun _=>rfl) rfl rfl rfl ?_)|(refine Exists.intro (j+1) ⟨by omega,by omega,?_⟩)|exact cSd|apply qd []|refine exr ?_|refine qh ?_)
      all_goals first|assumption|rfl|(rw [hfo];assumption)|(rw [hfo];done)|(simp;done)
     ·have hjn:j=v.length:=by omega
      subst hjn
      rw [List.take_length]
      apply qg []
      repeat' (first|apply And.intro|(intro h;try exact cDd)|(refine Exists.intro (k+1,v.foldl (fun L s=>setM s ((k:Int)+1) L) L) ⟨⟨by omega,hst⟩,by simp only;omega,?_⟩)|exact cSd|apply qd []|refine exr ?_|refine qh ?_)
      all_goals first|assumption|rfl|(simp;done)
  ·have hkn:k=all.length:=by omega
   subst hkn
   have htl:all.take all.length=all:=List.take_length
   apply qg []
   repeat' (first|apply And.intro|(intro h;try exact cDd)|exact cSd|apply qd []|refine exr ?_|refine qh ?_)
   all_goals first|rfl|(rw [htl];done)|(simp;done)
theorem q6n (r:zz) (all:List (Int×List Fld)) (st:List AObj) (hr:qem r) (hl:all.length<1000000) (hf:∀ x∈all,qgs x.2):qp E 79 [wu r,qay all] st fun x st'=>x=qg1 (qdz r all)∧st'=st:=by
 refine z0 [.a (wu r),.a (qay all)] (qd3 _) Tryz.func79 rfl rfl (fun _=>rfl) rfl fun S0=>?_
 have hg:=fun st=>qmn r st hr.key
 have hd:=fun st=>q3w r.key all st hl fun x hx=>(hf x hx).len
 have hb:=fun x (hx:x∈all) st=>qjs r x.2 st hr (hf x hx)
 have hml:(all.map stzA).length=all.length:=by simp
 unfold qdz
 by_cases hgood:y0 r
 ·rw [if_pos hgood]
  rw [decide_eq_true hgood] at hg
  by_cases h7:r.kind=7
  ·rw [if_pos h7]
   apply qg []
   repeat' (first|apply And.intro|(intro h;try exact cDd)|exact⟨Tryz.call50⟩|refine cpe hg ?_|exact⟨Tryz.call142⟩|refine cpe hd ?_|exact cSd|apply qd []|refine exr ?_|refine qh ?_)
  ·rw [if_neg h7]
   apply qg []
   repeat' (first|apply And.intro|(intro h;try exact cDd)|exact⟨Tryz.call50⟩|refine cpe hg ?_|exact cSd|apply qd []|refine exr ?_|refine qh ?_)
   refine zw (X:=Nat) (fun k=>⟨[(2,.a (.pp (qkm r))),(5,.tp 0),(20,.a (qay all)),(21,.i all.length),(22,.i k)],[(0,some (.tip 1 3 ((((all.take k).filter fun x=>decide (yc r x.2)).map Prod.fst).map fun n=>Iv n)))],1⟩)
    (fun k=>k≤all.length) (fun k=>all.length - k) 0 (by omega) ?_ ?_
   ·skip
    repeat' (first|apply And.intro|(intro h;try exact cDd)|exact cSd|apply qd []|refine exr ?_|refine qh ?_)
    all_goals first|rfl|(simp;done)
   ·rintro k hk
    by_cases hkn:k<all.length
    ·have hx:all[k]? = some all[k]:=List.getElem?_eq_getElem hkn
     have hxm:(all.map stzA)[k]? = some (stzA all[k]):=by rw [List.getElem?_map,hx];rfl
     have htk:all.take (k+1)=all.take k++[all[k]]:=by rw [List.take_add_one,hx];rfl
     have hb1:=hb _ (List.getElem_mem hkn)
     have hfl:((all.take k).filter fun x=>decide (yc r x.2)).length≤all.length:=by
      have:=List.length_filter_le (fun x:Int×List Fld=>decide (yc r x.2)) (all.take k)
      simp at this
      omega
     generalize all[k]=x at hx hxm hb1 htk
     by_cases hbr:yc r x.2
     ·have e1:((all.take (k+1)).filter fun x=>decide (yc r x.2)).map Prod.fst=((all.take k).filter fun x=>decide (yc r x.2)).map Prod.fst++[x.1]:=by rw [htk];simp [hbr]
      rw [decide_eq_true hbr] at hb1
      apply qg []
      repeat' (first|apply And.intro|(intro h;try exact cDd)|(refine Exists.intro (k) ⟨by omega,_,hxm,?_⟩)|exact⟨Tryz.call41⟩|refine cpe hb1 ?_|(refine Exists.intro (k+1) ⟨by omega,by omega,?_⟩)|exact cSd|apply qd []|refine exr ?_|refine qh ?_)
      all_goals first|(rw [e1];simp;done)|(simp;omega)
     ·have e1:((all.take (k+1)).filter fun x=>decide (yc r x.2)).map Prod.fst=((all.take k).filter fun x=>decide (yc r x.2)).map Prod.fst:=by rw [htk];simp [hbr]
      rw [decide_eq_false hbr] at hb1
      apply qg []
      repeat' (first|apply And.intro|(intro h;try exact cDd)|(refine Exists.intro (k) ⟨by omega,_,hxm,?_⟩)|exact⟨Tryz.call41⟩|refine cpe hb1 ?_|(refine Exists.intro (k+1) ⟨by omega,by omega,?_⟩)|exact cSd|apply qd []|refine exr ?_|refine qh ?_)
      all_goals first|(rw [e1];done)|(simp;omega)
    ·have hkn:k=all.length:=by omega
     subst hkn
     rw [List.take_length]
     apply qg []
     repeat' (first|apply And.intro|(intro h;try exact cDd)|exact cSd|apply qd []|refine exr ?_|refine qh ?_)
 ·rw [if_neg hgood]
  rw [decide_eq_false hgood] at hg
  apply qg []
  repeat' (first|apply And.intro|(intro h;try exact cDd)|exact⟨Tryz.call50⟩|refine cpe hg ?_|exact cSd|apply qd []|refine exr ?_|refine qh ?_)
end Go.Proofs.YtneejjefekdgjaaGreatDoor
