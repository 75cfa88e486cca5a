/- Contracts and plain facts that the closing text leans on (part 3). No condition of their own beyond those that each states. -/
import Derived.Test.YtneejjefekdgjaaGreatDoorK2
import Derived.Deep.Slices
import Derived.Deep.Fields
import Derived.WideKeyArgs
import Derived.Lib.ItoaLen
set_option maxRecDepth 100000
set_option linter.unusedVariables false
set_option linter.unusedSimpArgs false
namespace Go.Proofs.YtneejjefekdgjaaGreatDoor
open Go Go.Av Go.RowKit Go.Proofs Go.Pl
theorem qrq {xs:List FldV} {k:Nat} (hk:k<xs.length):(xs.map fldA)[k]? = some (fldA (xs.getD k ([],[]))):=by
 simp [List.getD,hk]
def xb (key:qd) (xs:List FldV):List qd:=(xs.filter fun f=>f.1=key).map Prod.snd
theorem qgx {key:qd} {xs:List FldV} {k:Nat} (hk:k<xs.length):xb key (xs.take (k+1))=xb key (xs.take k)++if (xs.getD k ([],[])).1=key then [(xs.getD k ([],[])).2] else []:=by
 unfold xb
 rw [List.take_succ_eq_append_getElem hk,List.filter_append,List.map_append]
 congr 1
 have e:xs.getD k ([],[])=xs[k]:=by simp [List.getD,hk]
 rw [e]
 by_cases h:xs[k].1=key <;> simp [h]
theorem qih (key:qd) (xs:List FldV):(xb key xs).length≤xs.length:=by
 unfold xb
 rw [List.length_map]
 exact List.length_filter_le _ _
theorem qnr (key:qd) (xs:List FldV) (k:Nat):(xb key (xs.take k)).length≤xs.length:=by
 have h1:=qih key (xs.take k)
 have h2:(xs.take k).length≤xs.length:=by simp;omega
 omega
set_option maxHeartbeats 1000000 in
theorem qtg (key:qd) (xs:List FldV) (st:List AObj) (hx:xs.length<1000000000):qn E 83 [Sv key,vq xs] st fun r st'=>r = .sl 1 ((xb key xs).map fun x=>Sv x) none∧st'=st:=by
 refine zz (qjj _) (qx Tryz.func83 rfl (Nat.le_of_ble_eq_true rfl) ?_)
 have hlen:(xs.map fldA).length=xs.length:=by simp
 repeat' (first|(apply w7;first|apply qv|apply zw|apply qm|(apply qc;exact rfl;apply xi;exact cAo)|(apply qc;exact rfl;apply xg;exact cAo)|(apply qc;exact rfl;apply yu;exact cRa)|(apply qc;exact rfl;apply y0;exact cRa)|(apply qc;exact rfl;apply cd_n <;> intro h)|(apply qc;exact rfl;apply cd_t;exact cRa)|(apply qc;exact rfl;apply cd_f;exact cRa)|(apply qc;exact rfl;apply cd_d <;> intro h)|(apply qc;exact rfl;apply cd_s <;> intro h)|(apply xf;exact rfl;kernel_rfl)|apply q9|apply kc|apply zj)|(apply ku;first|(apply q6;(iterate 4 exact rfl))|(apply zk;(iterate 4 exact rfl)))|(apply xy;first|(apply vg;exact cAo)|(apply wl;exact cAo)|(apply vd;exact cAo)|(apply vm;exact cAo)|(apply vl;exact cRa)|(apply wd;exact cRa)|(apply va;exact cRa)|(apply ki;exact cRa)|(apply kj <;> intro h)|(apply wo;exact cRa)|(apply xa;exact cRa)|(apply vn;exact cRa)|(apply ve;exact cRa)|(apply j9 <;> intro h)|(apply wp <;> intro h))|(apply xx;first|apply ye|(apply xq;(iterate 4 exact rfl))|(apply yo;exact rfl;exact rfl;exact ql (by omega) (by omega))|(apply xv;(iterate 4 exact rfl);exact cAs;exact cAs)|(apply j7;(iterate 5 exact rfl))|(apply vk;exact rfl;exact rfl;exact cOs)|(apply kh;(iterate 3 exact rfl))|(apply jz;(iterate 5 exact rfl))|(apply zv;(iterate 4 exact rfl))|(apply zu;(iterate 3 exact rfl))|(apply yn;(iterate 3 exact rfl);exact cAs)|(apply xu;exact rfl;exact rfl)|(apply wz;exact rfl;exact rfl)|(apply w6;(iterate 3 exact rfl);omega)|(apply v8;(iterate 3 exact rfl))|apply xk|apply v7|(apply ym;exact rfl;exact rfl;exact ql (by omega) (by omega))|(apply xt;(iterate 3 exact rfl))|(apply xw;(iterate 3 exact rfl);exact cAs)|(apply xp;(iterate 3 exact rfl);exact cAs)|(apply kq;exact rfl;exact rfl))|(apply kr;first|(apply zb;(iterate 3 exact rfl))|(apply jn;(iterate 3 exact rfl))|(apply jf;exact rfl;exact rfl;exact cOs)|(apply z8;exact rfl;exact rfl;exact ql (by omega) (by omega))|(apply vr;exact rfl;exact rfl;exact ql (by omega) (by omega))|(apply zx;exact rfl;exact rfl)|(apply zy;exact rfl;exact rfl)|(apply jg;exact rfl;exact rfl)|(apply jh;exact rfl;exact rfl)|(apply zq;(iterate 3 exact rfl))|(apply ji;(iterate 3 exact rfl))|(apply kp;exact rfl;exact rfl;(first|exact qg _|exact rfl);first|exact qg _|exact rfl)|(apply kl;exact rfl;exact rfl;(first|exact qg _|exact rfl);first|exact qg _|exact rfl)|(apply v6;exact rfl;exact rfl;(first|exact qg _|exact rfl);first|exact qg _|exact rfl)|(apply km;(iterate 3 exact rfl))|(apply ko;(iterate 3 exact rfl)))|(apply wb;first|(apply zf;(iterate 3 exact rfl))|(apply jq;(iterate 5 exact rfl))|(apply zh;(iterate 5 exact rfl)))|(apply wc;first|(apply kg;exact rfl)|(apply ju;exact rfl)|(apply jw;exact rfl))|(apply kw;first|(apply vj;(iterate 3 exact rfl);exact cAs)|(apply vh;(iterate 3 exact rfl);exact cAs)|(apply vi;(iterate 4 exact rfl);exact cAs;exact cAs)|(apply z0;(iterate 4 exact rfl);(first|assumption|omega|exact Nat.succ_le_succ (Nat.zero_le _)|(simp;omega));exact rfl))|(apply wa;first|(apply j5;(iterate 3 exact rfl))|(apply zl;(iterate 4 exact rfl)))|(apply jc;first|(apply qw;(iterate 3 exact rfl))|(apply q7;(iterate 4 exact rfl)))|(apply kz;first|(apply jb;(iterate 11 exact rfl))|(apply ze;(iterate 11 exact rfl)))|(apply w8;first|apply qk|apply qp|apply qo|(apply zn;exact rfl;exact rfl)|(apply qe;exact rfl;apply yj;exact cAo)|(apply qe;exact rfl;apply yw;exact cAo)|(apply qe;exact rfl;apply qaa;exact cRa)|(apply qe;exact rfl;apply y9;exact cRa)|(apply qe;exact rfl;apply pk_t;exact cRa)|(apply qe;exact rfl;apply pk_f;exact cRa)|(apply qy;exact rfl;exact rfl)|apply z7|(apply z4;exact rfl;exact rfl)|(apply vc;(iterate 4 exact rfl))|(apply j8;(iterate 3 exact rfl))|(apply wn;(iterate 3 exact rfl);exact cAs)|(apply jt;(iterate 3 exact rfl))|(apply zo;(iterate 9 exact rfl))|(apply zi;exact rfl;exact rfl)|(apply j6;(iterate 4 exact rfl);(first|assumption|omega|decide);exact rfl)|(apply zt;(iterate 4 exact rfl);first|assumption|omega|decide)))
 refine qv8 (i:=5) (sz:=1) (T':=9) rfl ?_
 refine qcd (fun (k:Nat) s=>k≤xs.length∧StE [(0,Sv key),(5,.sl 1 ((xb key (xs.take k)).map fun x=>Sv x) (some (st.length+0))),(8,vq xs),(9,Iv xs.length),(10,Iv k)] st [.tip (xb key (xs.take k)).length 1 9] s) (fun k=>xs.length - k) 0 ⟨by omega,qok ⟨rfl,by simp [xb];rfl,rfl,by simp;rfl,rfl,trivial⟩ (by show (st++[])++[AObj.tip 0 1 _]=_;simp [xb])⟩ ?_
 rintro k _ ⟨hk,t,ext,rfl⟩
 have hvl:=qnr key xs k
 repeat' (first|(apply w7;first|apply qv|apply zw|apply qm|(apply qc;exact rfl;apply xi;exact cAo)|(apply qc;exact rfl;apply xg;exact cAo)|(apply qc;exact rfl;apply yu;exact cRa)|(apply qc;exact rfl;apply y0;exact cRa)|(apply qc;exact rfl;apply cd_n <;> intro h)|(apply qc;exact rfl;apply cd_t;exact cRa)|(apply qc;exact rfl;apply cd_f;exact cRa)|(apply qc;exact rfl;apply cd_d <;> intro h)|(apply qc;exact rfl;apply cd_s <;> intro h)|(apply xf;exact rfl;kernel_rfl)|apply q9|apply kc|apply zj)|(apply ku;first|(apply q6;(iterate 4 exact rfl))|(apply zk;(iterate 4 exact rfl)))|(apply xy;first|(apply vg;exact cAo)|(apply wl;exact cAo)|(apply vd;exact cAo)|(apply vm;exact cAo)|(apply vl;exact cRa)|(apply wd;exact cRa)|(apply va;exact cRa)|(apply ki;exact cRa)|(apply kj <;> intro h)|(apply wo;exact cRa)|(apply xa;exact cRa)|(apply vn;exact cRa)|(apply ve;exact cRa)|(apply j9 <;> intro h)|(apply wp <;> intro h))|(apply xx;first|apply ye|(apply xq;(iterate 4 exact rfl))|(apply yo;exact rfl;exact rfl;exact ql (by omega) (by omega))|(apply xv;(iterate 4 exact rfl);exact cAs;exact cAs)|(apply j7;(iterate 5 exact rfl))|(apply vk;exact rfl;exact rfl;exact cOs)|(apply kh;(iterate 3 exact rfl))|(apply jz;(iterate 5 exact rfl))|(apply zv;(iterate 4 exact rfl))|(apply zu;(iterate 3 exact rfl))|(apply yn;(iterate 3 exact rfl);exact cAs)|(apply xu;exact rfl;exact rfl)|(apply wz;exact rfl;exact rfl)|(apply w6;(iterate 3 exact rfl);omega)|(apply v8;(iterate 3 exact rfl))|apply xk|apply v7|(apply ym;exact rfl;exact rfl;exact ql (by omega) (by omega))|(apply xt;(iterate 3 exact rfl))|(apply xw;(iterate 3 exact rfl);exact cAs)|(apply xp;(iterate 3 exact rfl);exact cAs)|(apply kq;exact rfl;exact rfl))|(apply kr;first|(apply zb;(iterate 3 exact rfl))|(apply jn;(iterate 3 exact rfl))|(apply jf;exact rfl;exact rfl;exact cOs)|(apply z8;exact rfl;exact rfl;exact ql (by omega) (by omega))|(apply vr;exact rfl;exact rfl;exact ql (by omega) (by omega))|(apply zx;exact rfl;exact rfl)|(apply zy;exact rfl;exact rfl)|(apply jg;exact rfl;exact rfl)|(apply jh;exact rfl;exact rfl)|(apply zq;(iterate 3 exact rfl))|(apply ji;(iterate 3 exact rfl))|(apply kp;exact rfl;exact rfl;(first|exact qg _|exact rfl);first|exact qg _|exact rfl)|(apply kl;exact rfl;exact rfl;(first|exact qg _|exact rfl);first|exact qg _|exact rfl)|(apply v6;exact rfl;exact rfl;(first|exact qg _|exact rfl);first|exact qg _|exact rfl)|(apply km;(iterate 3 exact rfl))|(apply ko;(iterate 3 exact rfl)))|(apply wb;first|(apply zf;(iterate 3 exact rfl))|(apply jq;(iterate 5 exact rfl))|(apply zh;(iterate 5 exact rfl)))|(apply wc;first|(apply kg;exact rfl)|(apply ju;exact rfl)|(apply jw;exact rfl))|(apply kw;first|(apply vj;(iterate 3 exact rfl);exact cAs)|(apply vh;(iterate 3 exact rfl);exact cAs)|(apply vi;(iterate 4 exact rfl);exact cAs;exact cAs)|(apply z0;(iterate 4 exact rfl);(first|assumption|omega|exact Nat.succ_le_succ (Nat.zero_le _)|(simp;omega));exact rfl))|(apply wa;first|(apply j5;(iterate 3 exact rfl))|(apply zl;(iterate 4 exact rfl)))|(apply jc;first|(apply qw;(iterate 3 exact rfl))|(apply q7;(iterate 4 exact rfl)))|(apply kz;first|(apply jb;(iterate 11 exact rfl))|(apply ze;(iterate 11 exact rfl)))|(apply w8;first|apply qk|apply qp|apply qo|(apply zn;exact rfl;exact rfl)|(apply qe;exact rfl;apply yj;exact cAo)|(apply qe;exact rfl;apply yw;exact cAo)|(apply qe;exact rfl;apply qaa;exact cRa)|(apply qe;exact rfl;apply y9;exact cRa)|(apply qe;exact rfl;apply pk_t;exact cRa)|(apply qe;exact rfl;apply pk_f;exact cRa)|(apply qy;exact rfl;exact rfl)|apply z7|(apply z4;exact rfl;exact rfl)|(apply vc;(iterate 4 exact rfl))|(apply j8;(iterate 3 exact rfl))|(apply wn;(iterate 3 exact rfl);exact cAs)|(apply jt;(iterate 3 exact rfl))|(apply zo;(iterate 9 exact rfl))|(apply zi;exact rfl;exact rfl)|(apply j6;(iterate 4 exact rfl);(first|assumption|omega|decide);exact rfl)|(apply zt;(iterate 4 exact rfl);first|assumption|omega|decide))|(apply xj (n:=k);(iterate 5 exact rfl);exact qrq (by omega))|(apply qga (n:=(xb key (xs.take k)).length) (m:=1) (sz:=1) (bytes:=16);(iterate 4 exact rfl);simp;exact rfl;exact rfl;exact⟨⟨_,_,rfl,rfl,rfl,rfl,rfl⟩⟩;exact rfl;exact rfl;(unfold maxLen;omega);omega;exact rfl))
 ·refine⟨k+1,⟨by omega,qhe ⟨rfl,?_,rfl,rfl,rfl,trivial⟩ ?_⟩,by omega⟩
  ·rw [qgx (by omega),if_pos (by assumption),List.map_append]
   rfl
  ·rw [qgx (by omega),if_pos (by assumption),List.length_append]
   rfl
 ·have e:xb key (xs.take (k+1))=xb key (xs.take k):=by rw [qgx (by omega),if_neg (by assumption),List.append_nil]
  refine⟨k+1,⟨by omega,qhe ⟨rfl,?_,rfl,rfl,rfl,trivial⟩ ?_⟩,by omega⟩
  ·rw [e]
   rfl
  ·rw [e]
 ·have e:k=xs.length:=by omega
  subst e
  refine qu rfl (qv2 (sz:=1) rfl rfl) ⟨?_,qjx _ _ _ _⟩
  rw [List.take_length]
def qhp (xs:List FldV) (p:FldV→Bool):Int:=match xs.findIdx? p with|some k=>k|none=> -1
theorem q1f {xs:List FldV} {p:FldV→Bool} {k:Nat} (hk:k<xs.length) (h1:∀ x∈xs.take k,p x=false) (h2:p (xs.getD k ([],[]))=true):qhp xs p=k:=by
 unfold qhp
 have:xs.findIdx? p=some k:=by
  rw [List.findIdx?_eq_some_iff_getElem]
  refine⟨hk,by simpa [List.getD,hk] using h2,fun j hj=>?_⟩
  have:=h1 xs[j] (by rw [List.mem_take_iff_getElem];exact⟨j,by omega,rfl⟩)
  simpa using this
 rw [this]
theorem qwo {xs:List FldV} {p:FldV→Bool} (h:∀ x∈xs,p x=false):qhp xs p = -1:=by
 unfold qhp
 have:xs.findIdx? p=none:=by
  rw [List.findIdx?_eq_none_iff]
  exact h
 rw [this]
theorem qyv (xs:List FldV) (p:FldV→Bool):0≤qhp xs p↔xs.any p=true:=by
 unfold qhp
 cases h:xs.findIdx? p with
 |none=>
  rw [List.findIdx?_eq_none_iff] at h
  rw [List.any_eq_true]
  constructor
  ·intro h';simp at h'
  ·rintro⟨x,hx,h'⟩;rw [h x hx] at h';simp at h'
 |some k=>
  rw [List.findIdx?_eq_some_iff_getElem] at h
  obtain⟨hk,h1,_⟩:=h
  rw [List.any_eq_true]
  exact⟨fun _=>⟨xs[k],List.getElem_mem hk,h1⟩,fun _=>by simp⟩
theorem qxo {xs:List FldV} {p:FldV→Bool} {k:Nat} (hk:k<xs.length) (h1:∀ x∈xs.take k,p x=false) (h2:p (xs.getD k ([],[]))=false):∀ x∈xs.take (k+1),p x=false:=by
 intro x hx
 rw [List.take_succ_eq_append_getElem hk,List.mem_append,List.mem_singleton] at hx
 rcases hx with hx|rfl
 ·exact h1 x hx
 ·simpa [List.getD,hk] using h2
theorem q3t {xs:List FldV} {k:Nat} (hk:k<xs.length):xs.getD k ([],[])∈xs:=by
 have e:xs.getD k ([],[])=xs[k]:=by simp [List.getD,hk]
 rw [e]
 exact List.getElem_mem hk
theorem qwy (xs:List FldV) (p:FldV→Bool) (F:FuncId) (cs:List AV) (st:List AObj) (hx:xs.length<9223372036854775807) (hF:∀ vs w,(callFunc F vs).run E.P w = .ok (.enter F vs) w)
  (hp:∀ x∈xs,qn E F (fldA x::cs) (st++[]) fun r st'=>r=Bv (p x)∧st'=st++[]):qn E 146 [vq xs,.fn (.func F) [] cs] st fun r st'=>r=Iv (qhp xs p)∧st'=st:=by
 refine zz (zm _) (qx Tryz.func146 rfl (Nat.le_of_ble_eq_true rfl) ?_)
 have hlen:(xs.map fldA).length=xs.length:=by simp
 repeat' (first|(apply w7;first|apply qv|apply zw|apply qm|(apply qc;exact rfl;apply xi;exact cAo)|(apply qc;exact rfl;apply xg;exact cAo)|(apply qc;exact rfl;apply yu;exact cRa)|(apply qc;exact rfl;apply y0;exact cRa)|(apply qc;exact rfl;apply cd_n <;> intro h)|(apply qc;exact rfl;apply cd_t;exact cRa)|(apply qc;exact rfl;apply cd_f;exact cRa)|(apply qc;exact rfl;apply cd_d <;> intro h)|(apply qc;exact rfl;apply cd_s <;> intro h)|(apply xf;exact rfl;kernel_rfl)|apply q9|apply kc|apply zj)|(apply ku;first|(apply q6;(iterate 4 exact rfl))|(apply zk;(iterate 4 exact rfl)))|(apply xy;first|(apply vg;exact cAo)|(apply wl;exact cAo)|(apply vd;exact cAo)|(apply vm;exact cAo)|(apply vl;exact cRa)|(apply wd;exact cRa)|(apply va;exact cRa)|(apply ki;exact cRa)|(apply kj <;> intro h)|(apply wo;exact cRa)|(apply xa;exact cRa)|(apply vn;exact cRa)|(apply ve;exact cRa)|(apply j9 <;> intro h)|(apply wp <;> intro h))|(apply xx;first|apply ye|(apply xq;(iterate 4 exact rfl))|(apply yo;exact rfl;exact rfl;exact ql (by omega) (by omega))|(apply xv;(iterate 4 exact rfl);exact cAs;exact cAs)|(apply j7;(iterate 5 exact rfl))|(apply vk;exact rfl;exact rfl;exact cOs)|(apply kh;(iterate 3 exact rfl))|(apply jz;(iterate 5 exact rfl))|(apply zv;(iterate 4 exact rfl))|(apply zu;(iterate 3 exact rfl))|(apply yn;(iterate 3 exact rfl);exact cAs)|(apply xu;exact rfl;exact rfl)|(apply wz;exact rfl;exact rfl)|(apply w6;(iterate 3 exact rfl);omega)|(apply v8;(iterate 3 exact rfl))|apply xk|apply v7|(apply ym;exact rfl;exact rfl;exact ql (by omega) (by omega))|(apply xt;(iterate 3 exact rfl))|(apply xw;(iterate 3 exact rfl);exact cAs)|(apply xp;(iterate 3 exact rfl);exact cAs)|(apply kq;exact rfl;exact rfl))|(apply kr;first|(apply zb;(iterate 3 exact rfl))|(apply jn;(iterate 3 exact rfl))|(apply jf;exact rfl;exact rfl;exact cOs)|(apply z8;exact rfl;exact rfl;exact ql (by omega) (by omega))|(apply vr;exact rfl;exact rfl;exact ql (by omega) (by omega))|(apply zx;exact rfl;exact rfl)|(apply zy;exact rfl;exact rfl)|(apply jg;exact rfl;exact rfl)|(apply jh;exact rfl;exact rfl)|(apply zq;(iterate 3 exact rfl))|(apply ji;(iterate 3 exact rfl))|(apply kp;exact rfl;exact rfl;(first|exact qg _|exact rfl);first|exact qg _|exact rfl)|(apply kl;exact rfl;exact rfl;(first|exact qg _|exact rfl);first|exact qg _|exact rfl)|(apply v6;exact rfl;exact rfl;(first|exact qg _|exact rfl);first|exact qg _|exact rfl)|(apply km;(iterate 3 exact rfl))|(apply ko;(iterate 3 exact rfl)))|(apply wb;first|(apply zf;(iterate 3 exact rfl))|(apply jq;(iterate 5 exact rfl))|(apply zh;(iterate 5 exact rfl)))|(apply wc;first|(apply kg;exact rfl)|(apply ju;exact rfl)|(apply jw;exact rfl))|(apply kw;first|(apply vj;(iterate 3 exact rfl);exact cAs)|(apply vh;(iterate 3 exact rfl);exact cAs)|(apply vi;(iterate 4 exact rfl);exact cAs;exact cAs)|(apply z0;(iterate 4 exact rfl);(first|assumption|omega|exact Nat.succ_le_succ (Nat.zero_le _)|(simp;omega));exact rfl))|(apply wa;first|(apply j5;(iterate 3 exact rfl))|(apply zl;(iterate 4 exact rfl)))|(apply jc;first|(apply qw;(iterate 3 exact rfl))|(apply q7;(iterate 4 exact rfl)))|(apply kz;first|(apply jb;(iterate 11 exact rfl))|(apply ze;(iterate 11 exact rfl)))|(apply w8;first|apply qk|apply qp|apply qo|(apply zn;exact rfl;exact rfl)|(apply qe;exact rfl;apply yj;exact cAo)|(apply qe;exact rfl;apply yw;exact cAo)|(apply qe;exact rfl;apply qaa;exact cRa)|(apply qe;exact rfl;apply y9;exact cRa)|(apply qe;exact rfl;apply pk_t;exact cRa)|(apply qe;exact rfl;apply pk_f;exact cRa)|(apply qy;exact rfl;exact rfl)|apply z7|(apply z4;exact rfl;exact rfl)|(apply vc;(iterate 4 exact rfl))|(apply j8;(iterate 3 exact rfl))|(apply wn;(iterate 3 exact rfl);exact cAs)|(apply jt;(iterate 3 exact rfl))|(apply zo;(iterate 9 exact rfl))|(apply zi;exact rfl;exact rfl)|(apply j6;(iterate 4 exact rfl);(first|assumption|omega|decide);exact rfl)|(apply zt;(iterate 4 exact rfl);first|assumption|omega|decide)))
 refine qcd (fun (k:Nat) s=>k≤xs.length∧(∀ x∈xs.take k,p x=false)∧StA [(0,vq xs),(1,.fn (.func F) [] cs),(7,Iv xs.length),(8,Iv k)] (st++[]) [] s) (fun k=>xs.length - k) 0 ⟨by omega,by simp,qac ⟨rfl,rfl,by simp;rfl,rfl,trivial⟩⟩ ?_
 rintro k _ ⟨hk,h1,t,rfl⟩
 repeat' (first|(apply w7;first|apply qv|apply zw|apply qm|(apply qc;exact rfl;apply xi;exact cAo)|(apply qc;exact rfl;apply xg;exact cAo)|(apply qc;exact rfl;apply yu;exact cRa)|(apply qc;exact rfl;apply y0;exact cRa)|(apply qc;exact rfl;apply cd_n <;> intro h)|(apply qc;exact rfl;apply cd_t;exact cRa)|(apply qc;exact rfl;apply cd_f;exact cRa)|(apply qc;exact rfl;apply cd_d <;> intro h)|(apply qc;exact rfl;apply cd_s <;> intro h)|(apply xf;exact rfl;kernel_rfl)|apply q9|apply kc|apply zj)|(apply ku;first|(apply q6;(iterate 4 exact rfl))|(apply zk;(iterate 4 exact rfl)))|(apply xy;first|(apply vg;exact cAo)|(apply wl;exact cAo)|(apply vd;exact cAo)|(apply vm;exact cAo)|(apply vl;exact cRa)|(apply wd;exact cRa)|(apply va;exact cRa)|(apply ki;exact cRa)|(apply kj <;> intro h)|(apply wo;exact cRa)|(apply xa;exact cRa)|(apply vn;exact cRa)|(apply ve;exact cRa)|(apply j9 <;> intro h)|(apply wp <;> intro h))|(apply xx;first|apply ye|(apply xq;(iterate 4 exact rfl))|(apply yo;exact rfl;exact rfl;exact ql (by omega) (by omega))|(apply xv;(iterate 4 exact rfl);exact cAs;exact cAs)|(apply j7;(iterate 5 exact rfl))|(apply vk;exact rfl;exact rfl;exact cOs)|(apply kh;(iterate 3 exact rfl))|(apply jz;(iterate 5 exact rfl))|(apply zv;(iterate 4 exact rfl))|(apply zu;(iterate 3 exact rfl))|(apply yn;(iterate 3 exact rfl);exact cAs)|(apply xu;exact rfl;exact rfl)|(apply wz;exact rfl;exact rfl)|(apply w6;(iterate 3 exact rfl);omega)|(apply v8;(iterate 3 exact rfl))|apply xk|apply v7|(apply ym;exact rfl;exact rfl;exact ql (by omega) (by omega))|(apply xt;(iterate 3 exact rfl))|(apply xw;(iterate 3 exact rfl);exact cAs)|(apply xp;(iterate 3 exact rfl);exact cAs)|(apply kq;exact rfl;exact rfl))|(apply kr;first|(apply zb;(iterate 3 exact rfl))|(apply jn;(iterate 3 exact rfl))|(apply jf;exact rfl;exact rfl;exact cOs)|(apply z8;exact rfl;exact rfl;exact ql (by omega) (by omega))|(apply vr;exact rfl;exact rfl;exact ql (by omega) (by omega))|(apply zx;exact rfl;exact rfl)|(apply zy;exact rfl;exact rfl)|(apply jg;exact rfl;exact rfl)|(apply jh;exact rfl;exact rfl)|(apply zq;(iterate 3 exact rfl))|(apply ji;(iterate 3 exact rfl))|(apply kp;exact rfl;exact rfl;(first|exact qg _|exact rfl);first|exact qg _|exact rfl)|(apply kl;exact rfl;exact rfl;(first|exact qg _|exact rfl);first|exact qg _|exact rfl)|(apply v6;exact rfl;exact rfl;(first|exact qg _|exact rfl);first|exact qg _|exact rfl)|(apply km;(iterate 3 exact rfl))|(apply ko;(iterate 3 exact rfl)))|(apply wb;first|(apply zf;(iterate 3 exact rfl))|(apply jq;(iterate 5 exact rfl))|(apply zh;(iterate 5 exact rfl)))|(apply wc;first|(apply kg;exact rfl)|(apply ju;exact rfl)|(apply jw;exact rfl))|(apply kw;first|(apply vj;(iterate 3 exact rfl);exact cAs)|(apply vh;(iterate 3 exact rfl);exact cAs)|(apply vi;(iterate 4 exact rfl);exact cAs;exact cAs)|(apply z0;(iterate 4 exact rfl);(first|assumption|omega|exact Nat.succ_le_succ (Nat.zero_le _)|(simp;omega));exact rfl))|(apply wa;first|(apply j5;(iterate 3 exact rfl))|(apply zl;(iterate 4 exact rfl)))|(apply jc;first|(apply qw;(iterate 3 exact rfl))|(apply q7;(iterate 4 exact rfl)))|(apply kz;first|(apply jb;(iterate 11 exact rfl))|(apply ze;(iterate 11 exact rfl)))|(apply w8;first|apply qk|apply qp|apply qo|(apply zn;exact rfl;exact rfl)|(apply qe;exact rfl;apply yj;exact cAo)|(apply qe;exact rfl;apply yw;exact cAo)|(apply qe;exact rfl;apply qaa;exact cRa)|(apply qe;exact rfl;apply y9;exact cRa)|(apply qe;exact rfl;apply pk_t;exact cRa)|(apply qe;exact rfl;apply pk_f;exact cRa)|(apply qy;exact rfl;exact rfl)|apply z7|(apply z4;exact rfl;exact rfl)|(apply vc;(iterate 4 exact rfl))|(apply j8;(iterate 3 exact rfl))|(apply wn;(iterate 3 exact rfl);exact cAs)|(apply jt;(iterate 3 exact rfl))|(apply zo;(iterate 9 exact rfl))|(apply zi;exact rfl;exact rfl)|(apply j6;(iterate 4 exact rfl);(first|assumption|omega|decide);exact rfl)|(apply zt;(iterate 4 exact rfl);first|assumption|omega|decide))|(apply xj (n:=k);(iterate 5 exact rfl);exact qrq (by omega))|(refine ql1 rfl hF (qn.mono (hp (xs.getD k ([],[])) (q3t (by omega))) ?_);rintro _ _ ⟨rfl,rfl⟩))
 ·exact qu rfl (zp rfl) ⟨congrArg Iv (q1f (by omega) h1 (by assumption)).symm,_,rfl⟩
 ·exact⟨k+1,⟨by omega,qxo (by omega) h1 (by assumption),qac ⟨rfl,rfl,rfl,rfl,trivial⟩⟩,by omega⟩
 ·have e:k=xs.length:=by omega
  subst e
  rw [List.take_length] at h1
  exact qu rfl (zp rfl) ⟨congrArg Iv (qwo h1).symm,_,rfl⟩
theorem qpy (xs:List FldV) (p:FldV→Bool) (F:FuncId) (cs:List AV) (st:List AObj) (hx:xs.length<9223372036854775807) (hF:∀ vs w,(callFunc F vs).run E.P w = .ok (.enter F vs) w)
  (hp:∀ x∈xs,qn E F (fldA x::cs) ((st++[])++[]) fun r st'=>r=Bv (p x)∧st'=(st++[])++[]):qn E 84 [vq xs,.fn (.func F) [] cs] st fun r st'=>r=Bv (xs.any p)∧st'=st:=by
 refine zz (zm _) (qx Tryz.func84 rfl (Nat.le_of_ble_eq_true rfl) ?_)
 repeat' (first|(apply w7;first|apply qv|apply zw|apply qm|(apply qc;exact rfl;apply xi;exact cAo)|(apply qc;exact rfl;apply xg;exact cAo)|(apply qc;exact rfl;apply yu;exact cRa)|(apply qc;exact rfl;apply y0;exact cRa)|(apply qc;exact rfl;apply cd_n <;> intro h)|(apply qc;exact rfl;apply cd_t;exact cRa)|(apply qc;exact rfl;apply cd_f;exact cRa)|(apply qc;exact rfl;apply cd_d <;> intro h)|(apply qc;exact rfl;apply cd_s <;> intro h)|(apply xf;exact rfl;kernel_rfl)|apply q9|apply kc|apply zj)|(apply ku;first|(apply q6;(iterate 4 exact rfl))|(apply zk;(iterate 4 exact rfl)))|(apply xy;first|(apply vg;exact cAo)|(apply wl;exact cAo)|(apply vd;exact cAo)|(apply vm;exact cAo)|(apply vl;exact cRa)|(apply wd;exact cRa)|(apply va;exact cRa)|(apply ki;exact cRa)|(apply kj <;> intro h)|(apply wo;exact cRa)|(apply xa;exact cRa)|(apply vn;exact cRa)|(apply ve;exact cRa)|(apply j9 <;> intro h)|(apply wp <;> intro h))|(apply xx;first|apply ye|(apply xq;(iterate 4 exact rfl))|(apply yo;exact rfl;exact rfl;exact ql (by omega) (by omega))|(apply xv;(iterate 4 exact rfl);exact cAs;exact cAs)|(apply j7;(iterate 5 exact rfl))|(apply vk;exact rfl;exact rfl;exact cOs)|(apply kh;(iterate 3 exact rfl))|(apply jz;(iterate 5 exact rfl))|(apply zv;(iterate 4 exact rfl))|(apply zu;(iterate 3 exact rfl))|(apply yn;(iterate 3 exact rfl);exact cAs)|(apply xu;exact rfl;exact rfl)|(apply wz;exact rfl;exact rfl)|(apply w6;(iterate 3 exact rfl);omega)|(apply v8;(iterate 3 exact rfl))|apply xk|apply v7|(apply ym;exact rfl;exact rfl;exact ql (by omega) (by omega))|(apply xt;(iterate 3 exact rfl))|(apply xw;(iterate 3 exact rfl);exact cAs)|(apply xp;(iterate 3 exact rfl);exact cAs)|(apply kq;exact rfl;exact rfl))|(apply kr;first|(apply zb;(iterate 3 exact rfl))|(apply jn;(iterate 3 exact rfl))|(apply jf;exact rfl;exact rfl;exact cOs)|(apply z8;exact rfl;exact rfl;exact ql (by omega) (by omega))|(apply vr;exact rfl;exact rfl;exact ql (by omega) (by omega))|(apply zx;exact rfl;exact rfl)|(apply zy;exact rfl;exact rfl)|(apply jg;exact rfl;exact rfl)|(apply jh;exact rfl;exact rfl)|(apply zq;(iterate 3 exact rfl))|(apply ji;(iterate 3 exact rfl))|(apply kp;exact rfl;exact rfl;(first|exact qg _|exact rfl);first|exact qg _|exact rfl)|(apply kl;exact rfl;exact rfl;(first|exact qg _|exact rfl);first|exact qg _|exact rfl)|(apply v6;exact rfl;exact rfl;(first|exact qg _|exact rfl);first|exact qg _|exact rfl)|(apply km;(iterate 3 exact rfl))|(apply ko;(iterate 3 exact rfl)))|(apply wb;first|(apply zf;(iterate 3 exact rfl))|(apply jq;(iterate 5 exact rfl))|(apply zh;(iterate 5 exact rfl)))|(apply wc;first|(apply kg;exact rfl)|(apply ju;exact rfl)|(apply jw;exact rfl))|(apply kw;first|(apply vj;(iterate 3 exact rfl);exact cAs)|(apply vh;(iterate 3 exact rfl);exact cAs)|(apply vi;(iterate 4 exact rfl);exact cAs;exact cAs)|(apply z0;(iterate 4 exact rfl);(first|assumption|omega|exact Nat.succ_le_succ (Nat.zero_le _)|(simp;omega));exact rfl))|(apply wa;first|(apply j5;(iterate 3 exact rfl))|(apply zl;(iterate 4 exact rfl)))|(apply jc;first|(apply qw;(iterate 3 exact rfl))|(apply q7;(iterate 4 exact rfl)))|(apply kz;first|(apply jb;(iterate 11 exact rfl))|(apply ze;(iterate 11 exact rfl)))|(apply w8;first|apply qk|apply qp|apply qo|(apply zn;exact rfl;exact rfl)|(apply qe;exact rfl;apply yj;exact cAo)|(apply qe;exact rfl;apply yw;exact cAo)|(apply qe;exact rfl;apply qaa;exact cRa)|(apply qe;exact rfl;apply y9;exact cRa)|(apply qe;exact rfl;apply pk_t;exact cRa)|(apply qe;exact rfl;apply pk_f;exact cRa)|(apply qy;exact rfl;exact rfl)|apply z7|(apply z4;exact rfl;exact rfl)|(apply vc;(iterate 4 exact rfl))|(apply j8;(iterate 3 exact rfl))|(apply wn;(iterate 3 exact rfl);exact cAs)|(apply jt;(iterate 3 exact rfl))|(apply zo;(iterate 9 exact rfl))|(apply zi;exact rfl;exact rfl)|(apply j6;(iterate 4 exact rfl);(first|assumption|omega|decide);exact rfl)|(apply zt;(iterate 4 exact rfl);first|assumption|omega|decide))|(apply qz;exact Tryz.call146;exact qwy xs p F cs _ hx hF hp))
 refine qu rfl (zp rfl) ⟨congrArg Bv (?_:_=_),_,rfl⟩
 have:=qyv xs p
 cases h:xs.any p <;> simp_all
theorem qn5 {st l:List AObj} {o:Nat} {x:AObj} (h:st[o]? = some x):(st++l)[o]? = some x:=by
 rw [List.getElem?_append_left (lt_of_getElem? h)]
 exact h
theorem q5d (r:jo) (f:FldV) (st:List AObj) (o:Nat) (ho:st[o]? = some (.cells 0 86 (qxg r))) (h1:r.text.length<4294967281) (h2:f.2.length<4294967281):qn E 85 [fldA f,.bx o 0 0] st fun x st'=>x=Bv (!decide (qeu r f))∧st'=st:=by
 refine zz (zm _) (qx Tryz.func85 rfl (Nat.le_of_ble_eq_true rfl) ?_)
 repeat' (first|(apply w7;first|apply qv|apply zw|apply qm|(apply qc;exact rfl;apply xi;exact cAo)|(apply qc;exact rfl;apply xg;exact cAo)|(apply qc;exact rfl;apply yu;exact cRa)|(apply qc;exact rfl;apply y0;exact cRa)|(apply qc;exact rfl;apply cd_n <;> intro h)|(apply qc;exact rfl;apply cd_t;exact cRa)|(apply qc;exact rfl;apply cd_f;exact cRa)|(apply qc;exact rfl;apply cd_d <;> intro h)|(apply qc;exact rfl;apply cd_s <;> intro h)|(apply xf;exact rfl;kernel_rfl)|apply q9|apply kc|apply zj)|(apply ku;first|(apply q6;(iterate 4 exact rfl))|(apply zk;(iterate 4 exact rfl)))|(apply xy;first|(apply vg;exact cAo)|(apply wl;exact cAo)|(apply vd;exact cAo)|(apply vm;exact cAo)|(apply vl;exact cRa)|(apply wd;exact cRa)|(apply va;exact cRa)|(apply ki;exact cRa)|(apply kj <;> intro h)|(apply wo;exact cRa)|(apply xa;exact cRa)|(apply vn;exact cRa)|(apply ve;exact cRa)|(apply j9 <;> intro h)|(apply wp <;> intro h))|(apply xx;first|apply ye|(apply xq;(iterate 4 exact rfl))|(apply yo;exact rfl;exact rfl;exact ql (by omega) (by omega))|(apply xv;(iterate 4 exact rfl);exact cAs;exact cAs)|(apply j7;(iterate 5 exact rfl))|(apply vk;exact rfl;exact rfl;exact cOs)|(apply kh;(iterate 3 exact rfl))|(apply jz;(iterate 5 exact rfl))|(apply zv;(iterate 4 exact rfl))|(apply zu;(iterate 3 exact rfl))|(apply yn;(iterate 3 exact rfl);exact cAs)|(apply xu;exact rfl;exact rfl)|(apply wz;exact rfl;exact rfl)|(apply w6;(iterate 3 exact rfl);omega)|(apply v8;(iterate 3 exact rfl))|apply xk|apply v7|(apply ym;exact rfl;exact rfl;exact ql (by omega) (by omega))|(apply xt;(iterate 3 exact rfl))|(apply xw;(iterate 3 exact rfl);exact cAs)|(apply xp;(iterate 3 exact rfl);exact cAs)|(apply kq;exact rfl;exact rfl))|(apply kr;first|(apply zb;(iterate 3 exact rfl))|(apply jn;(iterate 3 exact rfl))|(apply jf;exact rfl;exact rfl;exact cOs)|(apply z8;exact rfl;exact rfl;exact ql (by omega) (by omega))|(apply vr;exact rfl;exact rfl;exact ql (by omega) (by omega))|(apply zx;exact rfl;exact rfl)|(apply zy;exact rfl;exact rfl)|(apply jg;exact rfl;exact rfl)|(apply jh;exact rfl;exact rfl)|(apply zq;(iterate 3 exact rfl))|(apply ji;(iterate 3 exact rfl))|(apply kp;exact rfl;exact rfl;(first|exact qg _|exact rfl);first|exact qg _|exact rfl)|(apply kl;exact rfl;exact rfl;(first|exact qg _|exact rfl);first|exact qg _|exact rfl)|(apply v6;exact rfl;exact rfl;(first|exact qg _|exact rfl);first|exact qg _|exact rfl)|(apply km;(iterate 3 exact rfl))|(apply ko;(iterate 3 exact rfl)))|(apply wb;first|(apply zf;(iterate 3 exact rfl))|(apply jq;(iterate 5 exact rfl))|(apply zh;(iterate 5 exact rfl)))|(apply wc;first|(apply kg;exact rfl)|(apply ju;exact rfl)|(apply jw;exact rfl))|(apply kw;first|(apply vj;(iterate 3 exact rfl);exact cAs)|(apply vh;(iterate 3 exact rfl);exact cAs)|(apply vi;(iterate 4 exact rfl);exact cAs;exact cAs)|(apply z0;(iterate 4 exact rfl);(first|assumption|omega|exact Nat.succ_le_succ (Nat.zero_le _)|(simp;omega));exact rfl))|(apply wa;first|(apply j5;(iterate 3 exact rfl))|(apply zl;(iterate 4 exact rfl)))|(apply jc;first|(apply qw;(iterate 3 exact rfl))|(apply q7;(iterate 4 exact rfl)))|(apply kz;first|(apply jb;(iterate 11 exact rfl))|(apply ze;(iterate 11 exact rfl)))|(apply w8;first|apply qk|apply qp|apply qo|(apply zn;exact rfl;exact rfl)|(apply qe;exact rfl;apply yj;exact cAo)|(apply qe;exact rfl;apply yw;exact cAo)|(apply qe;exact rfl;apply qaa;exact cRa)|(apply qe;exact rfl;apply y9;exact cRa)|(apply qe;exact rfl;apply pk_t;exact cRa)|(apply qe;exact rfl;apply pk_f;exact cRa)|(apply qy;exact rfl;exact rfl)|apply z7|(apply z4;exact rfl;exact rfl)|(apply vc;(iterate 4 exact rfl))|(apply j8;(iterate 3 exact rfl))|(apply wn;(iterate 3 exact rfl);exact cAs)|(apply jt;(iterate 3 exact rfl))|(apply zo;(iterate 9 exact rfl))|(apply zi;exact rfl;exact rfl)|(apply j6;(iterate 4 exact rfl);(first|assumption|omega|decide);exact rfl)|(apply zt;(iterate 4 exact rfl);first|assumption|omega|decide))|(apply wy;exact rfl;exact qn5 ho;exact rfl;exact rfl)|(apply qz;exact Tryz.call86;exact q4y r f _ h1 h2))
 exact qu rfl (zp rfl) ⟨rfl,_,rfl⟩
def yb (r:jo) (xs:List FldV):Prop:=yi r∧((r.kind=1∧(xb r.key xs).length=0)∨(r.kind=2∧1<(xb r.key xs).length)∨(r.kind≠1∧r.kind≠2∧xs.any (fun f=> !decide (qeu r f))=true))
instance (r:jo) (xs:List FldV):Decidable (yb r xs):=inferInstanceAs (Decidable (_∧(_∨_∨_)))
structure qee (r:jo):Prop where
 key:r.key.length<4294967281
 text:r.text.length<4294967281
structure qhg (xs:List FldV):Prop where
 len:xs.length<1000000
 val:∀ f∈xs,f.1.length<4294967281∧f.2.length<4294967281
theorem qhh (r:jo) (xs:List FldV) (st:List AObj) (hr:qee r) (hx:qhg xs):qn E 41 [vz r,vq xs] st fun x st'=>x=Bv (decide (yb r xs))∧st'=st:=by
 refine zz (zm _) (qx Tryz.func41 rfl (Nat.le_of_ble_eq_true rfl) ?_)
 have hl:=hx.len
 have hv:=qih r.key xs
 repeat' (first|(apply w7;first|apply qv|apply zw|apply qm|(apply qc;exact rfl;apply xi;exact cAo)|(apply qc;exact rfl;apply xg;exact cAo)|(apply qc;exact rfl;apply yu;exact cRa)|(apply qc;exact rfl;apply y0;exact cRa)|(apply qc;exact rfl;apply cd_n <;> intro h)|(apply qc;exact rfl;apply cd_t;exact cRa)|(apply qc;exact rfl;apply cd_f;exact cRa)|(apply qc;exact rfl;apply cd_d <;> intro h)|(apply qc;exact rfl;apply cd_s <;> intro h)|(apply xf;exact rfl;kernel_rfl)|apply q9|apply kc|apply zj)|(apply ku;first|(apply q6;(iterate 4 exact rfl))|(apply zk;(iterate 4 exact rfl)))|(apply xy;first|(apply vg;exact cAo)|(apply wl;exact cAo)|(apply vd;exact cAo)|(apply vm;exact cAo)|(apply vl;exact cRa)|(apply wd;exact cRa)|(apply va;exact cRa)|(apply ki;exact cRa)|(apply kj <;> intro h)|(apply wo;exact cRa)|(apply xa;exact cRa)|(apply vn;exact cRa)|(apply ve;exact cRa)|(apply j9 <;> intro h)|(apply wp <;> intro h))|(apply xx;first|apply ye|(apply xq;(iterate 4 exact rfl))|(apply yo;exact rfl;exact rfl;exact ql (by omega) (by omega))|(apply xv;(iterate 4 exact rfl);exact cAs;exact cAs)|(apply j7;(iterate 5 exact rfl))|(apply vk;exact rfl;exact rfl;exact cOs)|(apply kh;(iterate 3 exact rfl))|(apply jz;(iterate 5 exact rfl))|(apply zv;(iterate 4 exact rfl))|(apply zu;(iterate 3 exact rfl))|(apply yn;(iterate 3 exact rfl);exact cAs)|(apply xu;exact rfl;exact rfl)|(apply wz;exact rfl;exact rfl)|(apply w6;(iterate 3 exact rfl);omega)|(apply v8;(iterate 3 exact rfl))|apply xk|apply v7|(apply ym;exact rfl;exact rfl;exact ql (by omega) (by omega))|(apply xt;(iterate 3 exact rfl))|(apply xw;(iterate 3 exact rfl);exact cAs)|(apply xp;(iterate 3 exact rfl);exact cAs)|(apply kq;exact rfl;exact rfl))|(apply kr;first|(apply zb;(iterate 3 exact rfl))|(apply jn;(iterate 3 exact rfl))|(apply jf;exact rfl;exact rfl;exact cOs)|(apply z8;exact rfl;exact rfl;exact ql (by omega) (by omega))|(apply vr;exact rfl;exact rfl;exact ql (by omega) (by omega))|(apply zx;exact rfl;exact rfl)|(apply zy;exact rfl;exact rfl)|(apply jg;exact rfl;exact rfl)|(apply jh;exact rfl;exact rfl)|(apply zq;(iterate 3 exact rfl))|(apply ji;(iterate 3 exact rfl))|(apply kp;exact rfl;exact rfl;(first|exact qg _|exact rfl);first|exact qg _|exact rfl)|(apply kl;exact rfl;exact rfl;(first|exact qg _|exact rfl);first|exact qg _|exact rfl)|(apply v6;exact rfl;exact rfl;(first|exact qg _|exact rfl);first|exact qg _|exact rfl)|(apply km;(iterate 3 exact rfl))|(apply ko;(iterate 3 exact rfl)))|(apply wb;first|(apply zf;(iterate 3 exact rfl))|(apply jq;(iterate 5 exact rfl))|(apply zh;(iterate 5 exact rfl)))|(apply wc;first|(apply kg;exact rfl)|(apply ju;exact rfl)|(apply jw;exact rfl))|(apply kw;first|(apply vj;(iterate 3 exact rfl);exact cAs)|(apply vh;(iterate 3 exact rfl);exact cAs)|(apply vi;(iterate 4 exact rfl);exact cAs;exact cAs)|(apply z0;(iterate 4 exact rfl);(first|assumption|omega|exact Nat.succ_le_succ (Nat.zero_le _)|(simp;omega));exact rfl))|(apply wa;first|(apply j5;(iterate 3 exact rfl))|(apply zl;(iterate 4 exact rfl)))|(apply jc;first|(apply qw;(iterate 3 exact rfl))|(apply q7;(iterate 4 exact rfl)))|(apply kz;first|(apply jb;(iterate 11 exact rfl))|(apply ze;(iterate 11 exact rfl)))|(apply w8;first|apply qk|apply qp|apply qo|(apply zn;exact rfl;exact rfl)|(apply qe;exact rfl;apply yj;exact cAo)|(apply qe;exact rfl;apply yw;exact cAo)|(apply qe;exact rfl;apply qaa;exact cRa)|(apply qe;exact rfl;apply y9;exact cRa)|(apply qe;exact rfl;apply pk_t;exact cRa)|(apply qe;exact rfl;apply pk_f;exact cRa)|(apply qy;exact rfl;exact rfl)|apply z7|(apply z4;exact rfl;exact rfl)|(apply vc;(iterate 4 exact rfl))|(apply j8;(iterate 3 exact rfl))|(apply wn;(iterate 3 exact rfl);exact cAs)|(apply jt;(iterate 3 exact rfl))|(apply zo;(iterate 9 exact rfl))|(apply zi;exact rfl;exact rfl)|(apply j6;(iterate 4 exact rfl);(first|assumption|omega|decide);exact rfl)|(apply zt;(iterate 4 exact rfl);first|assumption|omega|decide))|(apply qz;exact Tryz.call50;exact qg8 r _ hr.key)|(apply qz;exact Tryz.call83;exact qtg r.key xs _ (by omega))|(apply zl;exact rfl;exact congrArg some List.length_map;exact rfl;exact rfl)|(apply qz;exact Tryz.call84;exact qpy xs (fun f=> !decide (qeu r f)) _ _ _ (by omega) Tryz.call85 (fun f hf=>q5d r f _ _ (by exact qn5 (qn5 (qag rfl))) hr.text (hx.val f hf).2)))
 all_goals refine qu rfl (zp rfl) ⟨congrArg Bv (?_:_=_),_,rfl⟩
 ·simp_all [yb]
 ·simp_all [yb]
 ·simp_all [yb]
  omega
 ·have e:yb r xs↔(xs.any fun f=> !decide (qeu r f))=true:=by
   constructor
   ·rintro⟨_,h|h|h⟩
    ·omega
    ·omega
    ·exact h.2.2
   ·intro h
    exact⟨of_decide_eq_true (by assumption),.inr (.inr ⟨by assumption,by assumption,h⟩)⟩
  cases he:(xs.any fun f=> !decide (qeu r f))
  ·exact (decide_eq_false fun h=>by rw [e,he] at h;cases h).symm
  ·exact (decide_eq_true (e.2 he)).symm
def qc8:qd:=[83,105,122,101]
def qct:jo:=⟨3,qc8,[],0,9⟩
theorem q5u:yi qct:=by decide +kernel
theorem brx1:yb qct [(qc8,[49,48])]:=by decide +kernel
theorem brx2:yb qct [(qc8,[48,55])]:=by decide +kernel
theorem brx3:¬ yb qct [(qc8,[55])]:=by decide +kernel
theorem rb_x:qee qct:=⟨by decide,by decide⟩
theorem fb_x (l:qd) (h:l.length≤9):qhg [(qc8,l)]:=⟨by simp,fun f hf=>by
 simp at hf
 subst hf
 exact⟨by simp [qc8],by simp only;omega⟩⟩
theorem q5e (st:List AObj):qn E 41 [vz qct,vq [(qc8,[49,48])]] st fun x st'=>x=Bv true∧st'=st:=by
 have:=qhh qct [(qc8,[49,48])] st rb_x (fb_x _ (by decide))
 rwa [decide_eq_true brx1] at this
theorem q5f (st:List AObj):qn E 41 [vz qct,vq [(qc8,[48,55])]] st fun x st'=>x=Bv true∧st'=st:=by
 have:=qhh qct [(qc8,[48,55])] st rb_x (fb_x _ (by decide))
 rwa [decide_eq_true brx2] at this
theorem q5g (st:List AObj):qn E 41 [vz qct,vq [(qc8,[55])]] st fun x st'=>x=Bv false∧st'=st:=by
 have:=qhh qct [(qc8,[55])] st rb_x (fb_x _ (by decide))
 rwa [decide_eq_false brx3] at this
theorem q3v (st:List AObj):qn E 50 [vz qct] st fun x st'=>x=Bv true∧st'=st:=by
 have:=qg8 qct st (by decide)
 rwa [decide_eq_true q5u] at this
theorem qx0 (st:List AObj):qn E 33 [] st fun x st'=>x=Bv true∧st'=st:=by
 refine zz (zm _) (qx Tryz.func33 rfl (Nat.le_of_ble_eq_true rfl) ?_)
 repeat' (first|(apply w7;first|apply qv|apply zw|apply qm|(apply qc;exact rfl;apply xi;exact cAo)|(apply qc;exact rfl;apply xg;exact cAo)|(apply qc;exact rfl;apply yu;exact cRa)|(apply qc;exact rfl;apply y0;exact cRa)|(apply qc;exact rfl;apply cd_n <;> intro h)|(apply qc;exact rfl;apply cd_t;exact cRa)|(apply qc;exact rfl;apply cd_f;exact cRa)|(apply qc;exact rfl;apply cd_d <;> intro h)|(apply qc;exact rfl;apply cd_s <;> intro h)|(apply xf;exact rfl;kernel_rfl)|apply q9|apply kc|apply zj)|(apply ku;first|(apply q6;(iterate 4 exact rfl))|(apply zk;(iterate 4 exact rfl)))|(apply xy;first|(apply vg;exact cAo)|(apply wl;exact cAo)|(apply vd;exact cAo)|(apply vm;exact cAo)|(apply vl;exact cRa)|(apply wd;exact cRa)|(apply va;exact cRa)|(apply ki;exact cRa)|(apply kj <;> intro h)|(apply wo;exact cRa)|(apply xa;exact cRa)|(apply vn;exact cRa)|(apply ve;exact cRa)|(apply j9 <;> intro h)|(apply wp <;> intro h))|(apply xx;first|apply ye|(apply xq;(iterate 4 exact rfl))|(apply yo;exact rfl;exact rfl;exact ql (by omega) (by omega))|(apply xv;(iterate 4 exact rfl);exact cAs;exact cAs)|(apply j7;(iterate 5 exact rfl))|(apply vk;exact rfl;exact rfl;exact cOs)|(apply kh;(iterate 3 exact rfl))|(apply jz;(iterate 5 exact rfl))|(apply zv;(iterate 4 exact rfl))|(apply zu;(iterate 3 exact rfl))|(apply yn;(iterate 3 exact rfl);exact cAs)|(apply xu;exact rfl;exact rfl)|(apply wz;exact rfl;exact rfl)|(apply w6;(iterate 3 exact rfl);omega)|(apply v8;(iterate 3 exact rfl))|apply xk|apply v7|(apply ym;exact rfl;exact rfl;exact ql (by omega) (by omega))|(apply xt;(iterate 3 exact rfl))|(apply xw;(iterate 3 exact rfl);exact cAs)|(apply xp;(iterate 3 exact rfl);exact cAs)|(apply kq;exact rfl;exact rfl))|(apply kr;first|(apply zb;(iterate 3 exact rfl))|(apply jn;(iterate 3 exact rfl))|(apply jf;exact rfl;exact rfl;exact cOs)|(apply z8;exact rfl;exact rfl;exact ql (by omega) (by omega))|(apply vr;exact rfl;exact rfl;exact ql (by omega) (by omega))|(apply zx;exact rfl;exact rfl)|(apply zy;exact rfl;exact rfl)|(apply jg;exact rfl;exact rfl)|(apply jh;exact rfl;exact rfl)|(apply zq;(iterate 3 exact rfl))|(apply ji;(iterate 3 exact rfl))|(apply kp;exact rfl;exact rfl;(first|exact qg _|exact rfl);first|exact qg _|exact rfl)|(apply kl;exact rfl;exact rfl;(first|exact qg _|exact rfl);first|exact qg _|exact rfl)|(apply v6;exact rfl;exact rfl;(first|exact qg _|exact rfl);first|exact qg _|exact rfl)|(apply km;(iterate 3 exact rfl))|(apply ko;(iterate 3 exact rfl)))|(apply wb;first|(apply zf;(iterate 3 exact rfl))|(apply jq;(iterate 5 exact rfl))|(apply zh;(iterate 5 exact rfl)))|(apply wc;first|(apply kg;exact rfl)|(apply ju;exact rfl)|(apply jw;exact rfl))|(apply kw;first|(apply vj;(iterate 3 exact rfl);exact cAs)|(apply vh;(iterate 3 exact rfl);exact cAs)|(apply vi;(iterate 4 exact rfl);exact cAs;exact cAs)|(apply z0;(iterate 4 exact rfl);(first|assumption|omega|exact Nat.succ_le_succ (Nat.zero_le _)|(simp;omega));exact rfl))|(apply wa;first|(apply j5;(iterate 3 exact rfl))|(apply zl;(iterate 4 exact rfl)))|(apply jc;first|(apply qw;(iterate 3 exact rfl))|(apply q7;(iterate 4 exact rfl)))|(apply kz;first|(apply jb;(iterate 11 exact rfl))|(apply ze;(iterate 11 exact rfl)))|(apply w8;first|apply qk|apply qp|apply qo|(apply zn;exact rfl;exact rfl)|(apply qe;exact rfl;apply yj;exact cAo)|(apply qe;exact rfl;apply yw;exact cAo)|(apply qe;exact rfl;apply qaa;exact cRa)|(apply qe;exact rfl;apply y9;exact cRa)|(apply qe;exact rfl;apply pk_t;exact cRa)|(apply qe;exact rfl;apply pk_f;exact cRa)|(apply qy;exact rfl;exact rfl)|apply z7|(apply z4;exact rfl;exact rfl)|(apply vc;(iterate 4 exact rfl))|(apply j8;(iterate 3 exact rfl))|(apply wn;(iterate 3 exact rfl);exact cAs)|(apply jt;(iterate 3 exact rfl))|(apply zo;(iterate 9 exact rfl))|(apply zi;exact rfl;exact rfl)|(apply j6;(iterate 4 exact rfl);(first|assumption|omega|decide);exact rfl)|(apply zt;(iterate 4 exact rfl);first|assumption|omega|decide))|(apply qz;exact Tryz.call41;exact q5e _)|(apply qz;exact Tryz.call41;exact q5f _)|(apply qz;exact Tryz.call41;exact q5g _)|(apply qz;exact Tryz.call50;exact q3v _))
 exact qu rfl (zp rfl) ⟨rfl,_,rfl⟩
theorem qxe (r:jo):qjv (vz r):=by
 intro y hy
 simp [AV.cells] at hy
 rcases hy with rfl|rfl|rfl|rfl|rfl <;> exact zm _
end Go.Proofs.YtneejjefekdgjaaGreatDoor
namespace Go.Av
open Go Go.RowKit Go.WideShapes Go.ChangeShapes Go.Deep
def gW (W:World):Gh:=⟨fun b=>match W.heap[b]? with|some (.cells c _ _)=>some c.toList | _=>none,fun _=>⟨0,0,0,false⟩,0⟩
theorem q5s {W:World} {b:Nat} {c:Array Value} {T:TypeId} {fz:Nat×Nat} (h:W.heap[b]? = some (.cells c T fz)):(gW W).pub b=some c.toList:=by
 simp [gW,h]
theorem qqo (W:World):q5 W.heap.size W (gW W) [] W:=by
 refine⟨Below.refl _ _,Nat.le_refl _,rfl,fun b vs h=>?_,fun o x h=>by simp at h,fun o o' x x' _ h=>by simp at h⟩
 simp only [gW] at h
 split at h
 ·rename_i c T fz hb
  cases h
  exact⟨c,T,fz,hb,fun i y hy=>by simpa using hy⟩
 ·cases h
theorem qmc {E:Env} {f:FuncId} {args:List AV} {vals:Array Value} {b:Bool} {W:World} (h:qn E f args [] fun r st'=>r=Bv b∧st'=[]) (hL:E.L W.heap.size W) (ha:RelL (gW W) args vals) :
  Calls E.P f vals W fun e w'=>e = .returned (.bool b)∧Below W.heap.size W w':=by
 refine (h.run W.heap.size W (gW W) vals W hL (qqo W) ha).mono ?_
 rintro e w' ⟨v,G',r,st',rfl,_,hA,hr,rfl,_⟩
 cases hr
 exact⟨rfl,hA.below⟩
theorem q18 {G:Gh}:RelL G [] #[]:=⟨rfl,fun i x y h=>by simp at h⟩
theorem qjl {G:Gh} {a:AV} {us:List AV} {v:Value} {vs:List Value} (h:Rel G a v) (hs:RelL G us vs.toArray):RelL G (a::us) (v::vs).toArray:=by
 refine⟨by simpa using hs.1,fun i x y hx hy=>?_⟩
 cases i with
 |zero=>simp at hx hy;subst hx;subst hy;exact h
 |succ i=>exact hs.2 i x y (by simpa using hx) (by simpa using hy)
def RelK (G:Gh) (us:List AV) (cs:List Value):Prop:=us.length=cs.length∧∀ (i:Nat) (x:AV) (y:Value),us[i]? = some x→cs[i]? = some y→Rel G x y
theorem qh8 {G:Gh} {a:AV} {v:Value} (h:Rel G a v):RelK G [a] [v]:=⟨rfl,fun i x y hx hy=>by
 cases i with
 |zero=>simp at hx hy;subst hx;subst hy;exact h
 |succ i=>simp at hx⟩
theorem RelK.one {G:Gh} {a:AV} {v:Value} (h:RelK G [a] [v]):Rel G a v:=h.2 0 a v rfl rfl
def Opn (P:Program) (t:TypeId) (S:AV→Prop):Prop:=∀ (H:Type) (enc:TypeId×Value→H) (W:World) (fuel:Nat) (cs:List Value) (x:DataW H×List MemPlace),
 DataW.trod enc P W 0 (fun _=>true) true fuel t cs=some x→∃ a,S a∧RelK (gW W) a.cells cs
def IsS (a:AV):Prop:=∃ l:List UInt8,a=Sv l∧l.length≤maxLen
def IsI (k:IntKind) (a:AV):Prop:=∃ n:Int,a = .v (.int k n)∧(Lit.int k n).wf=true
def IsSl (sz:Nat) (S:AV→Prop) (a:AV):Prop:=∃ xs:List AV,a = .sl sz xs none∧xs.length≤maxLen∧∀ x∈xs,S x
def IsAg (Ss:List (AV→Prop)) (a:AV):Prop:=∃ vs:List AV,a = .ag vs∧vs.length=Ss.length∧∀ (i:Nat) (S:AV→Prop) (v:AV),Ss[i]? = some S→vs[i]? = some v→S v
def One (S:AV→Prop):Prop:=∀ a,S a→a.cells=[a]
theorem qqi:One IsS:=by rintro _ ⟨l,rfl,_⟩;rfl
theorem qna (k:IntKind):One (IsI k):=by rintro _ ⟨l,rfl,_⟩;rfl
theorem q22 (s:ByteArray):Sv s.data.toList = .v (.string s):=by cases s;simp
theorem qqj {P:Program} {t:TypeId} (hu:P.underlying t=some .string):Opn P t IsS:=by
 intro H enc W fuel cs x h
 obtain⟨s,rfl,_,hs⟩:=DataW.trod_string hu h
 refine⟨Sv s.data.toList,⟨_,rfl,by simpa using hs⟩,qh8 ?_⟩
 rw [q22]
 exact .v _
theorem qnc {P:Program} {t:TypeId} {k:IntKind} (hu:P.underlying t=some (.int k)):Opn P t (IsI k):=by
 intro H enc W fuel cs x h
 obtain⟨n,rfl,_,hs⟩:=DataW.trod_int hu h
 exact⟨_,⟨n,rfl,hs⟩,qh8 (.v _)⟩
theorem qkd {n:Nat} {Q:Nat→AV→Prop} (h:∀ i,i<n→∃ a,Q i a):∃ vs:List AV,vs.length=n∧∀ i v,vs[i]? = some v→Q i v:=by
 induction n with
 |zero=>exact⟨[],rfl,fun i v h=>by simp at h⟩
 |succ n ih=>
  obtain⟨vs,hl,hv⟩:=ih fun i hi=>h i (by omega)
  obtain⟨a,ha⟩:=h n (by omega)
  refine⟨vs++[a],by simp [hl],fun i v hi=>?_⟩
  rcases Nat.lt_or_ge i n with hc|hc
  ·rw [List.getElem?_append_left (by omega)] at hi
   exact hv i v hi
  ·rw [List.getElem?_append_right (by omega)] at hi
   have:i - vs.length=0:=by
    rcases Nat.eq_zero_or_pos (i - vs.length) with h0|h0
    ·exact h0
    ·rw [List.getElem?_eq_none (by simp;omega)] at hi;cases hi
   rw [this] at hi
   simp at hi
   subst hi
   have:i=n:=by omega
   subst this
   exact ha
theorem q6b {P:Program} {t:TypeId} {fs:Array Field} {Ss:List (AV→Prop)} (hu:P.underlying t=some (.struct fs)) (hone:oneCellFields P fs=true) (hC:P.cellsOf t=fs.size) (hl:Ss.length=fs.size)
  (hS:∀ (i:Nat) (f:Field) (S:AV→Prop),fs[i]? = some f→Ss[i]? = some S→Opn P f.type S∧One S):Opn P t (IsAg Ss):=by
 intro H enc W fuel cs x h
 obtain⟨xs,n,_,_,hcl,hxl,hf⟩:=DataW.trod_struct hu h
 have hcs:cs.length=fs.size:=hcl.trans hC
 have step:∀ i,i<fs.size→∃ a:AV,(∀ S,Ss[i]? = some S→S a)∧∀ y,cs[i]? = some y→Rel (gW W) a y:=by
  intro i hi
  have hfi:fs[i]? = some fs[i]:=Array.getElem?_eq_getElem hi
  have hSi:Ss[i]? = some (Ss[i]'(by omega)):=List.getElem?_eq_getElem (by omega)
  obtain⟨hO,h1⟩:=hS i _ _ hfi hSi
  obtain⟨ho,hk⟩:=hone_of hone i _ hfi
  have ht:=hf i _ hfi
  rw [ho,hk] at ht
  have hd:(cs.drop i).take 1=[cs[i]'(by omega)]:=by
   rw [List.drop_eq_getElem_cons (by omega)]
   rfl
  rw [hd,List.getElem?_eq_getElem (by omega)] at ht
  obtain⟨a,ha,hr⟩:=hO H enc W n _ _ ht
  rw [h1 a ha] at hr
  refine⟨a,fun S hs=>?_,fun y hy=>?_⟩
  ·rw [hSi] at hs;cases hs;exact ha
  ·rw [List.getElem?_eq_getElem (by omega)] at hy;cases hy;exact hr.one
 obtain⟨vs,hvl,hv⟩:=qkd step
 refine⟨.ag vs,⟨vs,rfl,by omega,fun i S v hs hvi=>(hv i v hvi).1 S hs⟩,by show vs.length=cs.length;omega,fun i x y hx hy=>(hv i x hx).2 y hy⟩
theorem quw {W:World} {a:Addr} {n:Nat} {v:Value} (h:W.cell? (a.add n)=some v):∃ (c:Array Value) (T:TypeId) (fz:Nat×Nat),W.heap[a.block]? = some (.cells c T fz)∧c[a.off+n]? = some v∧(n=0→a.spot=none):=by
 unfold World.cell? Addr.add at h
 by_cases hn:n=0
 ·subst hn
  simp only [if_true] at h
  split at h
  ·rename_i c T fz hb
   split at h
   ·cases h
   ·rename_i hs
    exact⟨c,T,fz,hb,by simpa using h,fun _=>by simpa using hs⟩
  ·cases h
 ·rw [if_neg hn] at h
  simp only at h
  split at h
  ·rename_i c T fz hb
   exact⟨c,T,fz,hb,by simpa using h,fun e=>absurd e hn⟩
  ·cases h
theorem qnd {P:Program} {t e:TypeId} {sz:Nat} {S:AV→Prop} (hu:P.underlying t=some (.slice e)) (hC:P.cellsOf e=sz) (hz:0<sz) (hS:Opn P e S):Opn P t (IsSl sz S):=by
 intro H enc W fuel cs x h
 rcases open_slice hu h with⟨rfl,_⟩ | ⟨a,len,cap,m,n,D,Pl,rfl,_,hlc,hcm,hm,_,hel⟩
 ·exact⟨.sl sz [] none,⟨[],rfl,by simp,by simp⟩,qh8 (.sl0 sz none _ _ (by simp))⟩
 ·have hm':len≤m:=by rw [hm];simpa using hlc
  rw [hC] at hel
  have step:∀ i,i<len→∃ y:AV,S y∧y.cells.length=sz∧∀ j,j<sz→∃ (u:AV) (v:Value),y.cells[j]? = some u∧W.cell? (a.add (i * sz+j))=some v∧Rel (gW W) u v:=by
   intro i hi
   obtain⟨cs',hc,ht⟩:=hel i (by omega)
   obtain⟨_,hcl,hat⟩:=World.cells?_some hc
   obtain⟨y,hy,hr⟩:=hS H enc W n cs' _ ht
   refine⟨y,hy,hr.1.trans hcl,fun j hj=>?_⟩
   have h1:y.cells[j]? = some (y.cells[j]'(by rw [hr.1,hcl];exact hj)):=List.getElem?_eq_getElem _
   have h2:cs'[j]? = some (cs'[j]'(by omega)):=List.getElem?_eq_getElem _
   refine⟨_,_,h1,?_,hr.2 j _ _ h1 h2⟩
   rw [← Go.Deep.add_add,hat j hj,h2]
  obtain⟨xs,hxl,hx⟩:=qkd step
  have hmem:∀ y∈xs,S y∧y.cells.length=sz:=fun y hy=>by
   obtain⟨i,hi,rfl⟩:=List.mem_iff_getElem.1 hy
   have:=hx i xs[i] (List.getElem?_eq_getElem hi)
   exact⟨this.1,this.2.1⟩
  refine⟨.sl sz xs none,⟨xs,rfl,by omega,fun y hy=>(hmem y hy).1⟩,qh8 ?_⟩
  rcases Nat.eq_zero_or_pos len with h0|h0
  ·subst h0
   have:xs=[]:=List.length_eq_zero_iff.1 hxl
   subst this
   exact .sl0 sz none _ _ (by simp)
  ·have hfl:(flat xs).length=len * sz:=by rw [jk fun y hy=>(hmem y hy).2,hxl]
   have at0:∀ k,k<len * sz→∃ (u:AV) (v:Value),(flat xs)[k]? = some u∧W.cell? (a.add k)=some v∧Rel (gW W) u v:=by
    intro k hk
    have hq:k / sz<len:=(Nat.div_lt_iff_lt_mul hz).2 hk
    have hr:k % sz<sz:=Nat.mod_lt _ hz
    have e:k / sz * sz+k % sz=k:=by rw [Nat.mul_comm];exact Nat.div_add_mod k sz
    have hxi:xs[k / sz]? = some (xs[k / sz]'(by omega)):=List.getElem?_eq_getElem _
    obtain⟨_,_,hj⟩:=hx _ _ hxi
    obtain⟨u,v,h1,h2,h3⟩:=hj _ hr
    have:=qfr (sz:=sz) (fun y hy=>(hmem y hy).2) hxi _ hr
    rw [e] at this h2
    exact⟨u,v,this.trans h1,h2,h3⟩
   have hpos:0<len * sz:=Nat.mul_pos h0 hz
   obtain⟨_,_,_,hc0,_⟩:=at0 0 hpos
   obtain⟨c,T,fz,hb,_,hspot⟩:=quw hc0
   have hin:∀ k,k<len * sz→∃ (u:AV) (v:Value),(flat xs)[k]? = some u∧c.toList[a.off+k]? = some v∧Rel (gW W) u v:=by
    intro k hk
    obtain⟨u,v,h1,h2,h3⟩:=at0 k hk
    obtain⟨c',T',fz',hb',hv,_⟩:=quw h2
    rw [hb] at hb'
    cases hb'
    exact⟨u,v,h1,by simpa using hv,h3⟩
   obtain⟨b,off,spot⟩:=a
   have hs:=hspot rfl
   simp only at hs hb hin
   subst hs
   rw [← hxl]
   refine .sl sz xs none b off cap c.toList (q5s hb) (fun y hy=>(hmem y hy).2) ?_ ?_ ?_ (by omega)
   ·obtain⟨_,_,_,hv,_⟩:=hin (len * sz - 1) (by omega)
    have:=(List.getElem?_eq_some_iff.1 hv).1
    omega
   ·intro i x y hx' hy'
    have hi:i<len * sz:=by rw [← hfl];exact (List.getElem?_eq_some_iff.1 hx').1
    obtain⟨u,v,h1,h2,h3⟩:=hin i hi
    rw [hx'] at h1
    rw [hy'] at h2
    cases h1
    cases h2
    exact h3
   ·intro t ht
    simp at ht
def fieldsOf (P:Program) (t:TypeId):Array Field:=match P.underlying t with|some (.struct fs)=>fs | _=> #[]
theorem qh0 {P:Program} {t:TypeId} {As:List (Option TypeDesc×(AV→Prop))} (hu:P.underlying t=some (.struct (fieldsOf P t))) (hone:oneCellFields P (fieldsOf P t)=true) (hC:P.cellsOf t=(fieldsOf P t).size)
  (hF:(fieldsOf P t).toList.map (fun f=>P.underlying f.type)=As.map Prod.fst) (hA:∀ p∈As,(∀ u,P.underlying u=p.1→Opn P u p.2)∧One p.2):Opn P t (IsAg (As.map Prod.snd)):=by
 have hl:As.length=(fieldsOf P t).size:=by have:=congrArg List.length hF;simpa using this.symm
 refine q6b hu hone hC (by simpa using hl) fun i f S hf hS=>?_
 obtain⟨p,hp,rfl⟩:∃ p,As[i]? = some p∧p.2=S:=by simpa using hS
 have h1:((fieldsOf P t).toList.map (fun f=>P.underlying f.type))[i]? = some (P.underlying f.type):=by simp [hf]
 rw [hF,List.getElem?_map,hp] at h1
 obtain⟨a,b⟩:=hA p (List.mem_of_getElem? hp)
 exact⟨a _ (by simpa using h1.symm),b⟩
theorem qnv {α : Type} {g : α→AV}:∀ {xs:List AV},(∀ x∈xs,∃ r,x=g r)→∃ rs:List α,xs=rs.map g
 | [],_=>⟨[],rfl⟩
 |x::xs,h=>by
  obtain⟨r,rfl⟩:=h x (by simp)
  obtain⟨rs,rfl⟩:=qnv (xs:=xs) fun y hy=>h y (by simp [hy])
  exact⟨r::rs,rfl⟩
theorem qx4 {H:Type} {enc:TypeId×Value→H} {P:Program} {W:World} {r:Reach} {b0:Nat} {t e:TypeId} {S:AV→Prop} {v:Value} {d:DataW H} {ps:List MemPlace} (hu:P.underlying t=some (.slice e)) (hO:Opn P t S) (h1:One S) (hval:Value.okWide P W r b0 t v) (hd:DataW.Trod enc P W 0 (fun _=>true) true t v d ps) :
  ∃ a,S a∧Rel (gW W) a v:=by
 obtain⟨a,len,cap,rfl⟩:=okWide_slice hu hval
 obtain⟨fuel,hf⟩:=hd
 obtain⟨y,hy,hr⟩:=hO H enc W fuel _ _ hf
 rw [h1 y hy] at hr
 exact⟨y,hy,RelK.one (by simpa [Value.cells] using hr)⟩
theorem q6x {G:Gh} (s:ByteArray):Rel G (Sv s.data.toList) (.string s):=by rw [q22];exact .v _
theorem qq4 {H:Type} {enc:TypeId×Value→H} {P:Program} {W W':World} {t:TypeId} (hl:laidOutB P=true) (hr:P.readableRec t=true) (hrow:t<P.types.size) {sp:Nat→Bool} {v:Value} {d:DataW H} {ps:List MemPlace}
  (hd:DataW.Trod enc P W 0 (fun _=>true) true t v d ps) (hb:Below W.heap.size W W') (hlt:∀ p∈ps,p.block<W.heap.size) (hs:∀ p∈ps,sp p.block=true):DataW.Trod enc P W' 0 sp true t v d ps:=
 Go.WideElems.Trod_stays hl hr hrow hd (fun p hp=>hb.same (hlt p hp)) hs
end Go.Av
namespace Go.Proofs.YtneejjefekdgjaaGreatDoor
open Go Go.Av Go.RowKit Go.Proofs Go.Pl
theorem q4i:Opn Tryz.prog 111 fun a=>∃ f:FldV,a=fldA f:=by
 intro H enc W fuel cs x h
 obtain⟨a,⟨vs,rfl,hl,hv⟩,hr⟩:=qh0 (As:=[(some .string,IsS),(some .string,IsS)]) (by kernel_rfl) (by kernel_rfl) (by kernel_rfl) (by kernel_rfl)
  (List.forall_mem_cons.2 ⟨⟨fun _ h=>qqj h,qqi⟩,List.forall_mem_cons.2 ⟨⟨fun _ h=>qqj h,qqi⟩,nofun⟩⟩) H enc W fuel cs x h
 match vs,hl with
 | [v0,v1],_=>
  obtain⟨l0,rfl,_⟩:=hv 0 _ _ rfl rfl
  obtain⟨l1,rfl,_⟩:=hv 1 _ _ rfl rfl
  exact⟨_,⟨(l0,l1),rfl⟩,hr⟩
theorem q1z {t:TypeId} (hu:Tryz.prog.underlying t=some (.slice 111)):Opn Tryz.prog t fun a=>∃ xs:List FldV,a=vq xs∧xs.length≤maxLen:=by
 intro H enc W fuel cs x h
 obtain⟨a,⟨xs,rfl,hl,hx⟩,hr⟩:=qnd (sz:=2) hu (by kernel_rfl) (by decide) q4i H enc W fuel cs x h
 obtain⟨rs,rfl⟩:=qnv hx
 exact⟨_,⟨rs,rfl,by simpa using hl⟩,hr⟩
theorem q10:Opn Tryz.prog 167 fun a=>∃ r:jo,a=vz r:=by
 intro H enc W fuel cs x h
 obtain⟨a,⟨vs,rfl,hl,hv⟩,hr⟩:=qh0 (As:=[(some (.int .i64),IsI .i64),(some .string,IsS),(some .string,IsS),(some (.int .i64),IsI .i64),(some (.int .i64),IsI .i64)]) (by kernel_rfl) (by kernel_rfl) (by kernel_rfl) (by kernel_rfl)
  (List.forall_mem_cons.2 ⟨⟨fun _ h=>qnc h,qna _⟩,List.forall_mem_cons.2 ⟨⟨fun _ h=>qqj h,qqi⟩,List.forall_mem_cons.2 ⟨⟨fun _ h=>qqj h,qqi⟩,List.forall_mem_cons.2 ⟨⟨fun _ h=>qnc h,qna _⟩,List.forall_mem_cons.2 ⟨⟨fun _ h=>qnc h,qna _⟩,nofun⟩⟩⟩⟩⟩) H enc W fuel cs x h
 match vs,hl with
 | [v0,v1,v2,v3,v4],_=>
  obtain⟨n0,rfl,_⟩:=hv 0 _ _ rfl rfl
  obtain⟨l1,rfl,_⟩:=hv 1 _ _ rfl rfl
  obtain⟨l2,rfl,_⟩:=hv 2 _ _ rfl rfl
  obtain⟨n3,rfl,_⟩:=hv 3 _ _ rfl rfl
  obtain⟨n4,rfl,_⟩:=hv 4 _ _ rfl rfl
  exact⟨_,⟨⟨n0,l1,l2,n3,n4⟩,rfl⟩,hr⟩
theorem qzs {t:TypeId} (hu:Tryz.prog.underlying t=some (.slice 167)):Opn Tryz.prog t fun a=>∃ xs:List jo,a = .sl 5 (xs.map vz) none∧xs.length≤maxLen:=by
 intro H enc W fuel cs x h
 obtain⟨a,⟨xs,rfl,hl,hx⟩,hr⟩:=qnd (sz:=5) hu (by kernel_rfl) (by decide) q10 H enc W fuel cs x h
 obtain⟨rs,rfl⟩:=qnv hx
 exact⟨_,⟨rs,rfl,by simpa using hl⟩,hr⟩
theorem q1x:One fun a=>∃ xs:List FldV,a=vq xs∧xs.length≤maxLen:=by rintro _ ⟨xs,rfl,_⟩;rfl
theorem qzo:One fun a=>∃ xs:List jo,a = .sl 5 (xs.map vz) none∧xs.length≤maxLen:=by rintro _ ⟨xs,rfl,_⟩;rfl
theorem qze {n:Nat} (h:n≤maxLen):n<9223372036854775808:=by unfold maxLen at h;omega
structure za where
 kind:Int
 id:Int
 fields:List FldV
@[reducible] def qbm (e : za) : AV := .ag [Iv e.kind, Iv e.id, vq e.fields]
def q5v (k:Int):qd:=if k=1 then [32,114,101,112,108,97,99,101,32] else if k=2 then [32,100,101,108,101,116,101,32] else if k=3 then [32,105,110,115,101,114,116,32] else []
def qgk (e:za):qd:=if 1≤e.kind∧e.kind≤3 then q5v e.kind++Lib.itoa e.id else []
end Go.Proofs.YtneejjefekdgjaaGreatDoor
namespace Go.Av
open Go Go.RowKit
def noop (o:Oper):Oper:={ o with op:=.move (.const undef),guard:=none }
section
variable {F : Fence} {n : Nat} {P : Program} {ops ops' : Array Oper} {md : Region.Mode} {C : World → Prop} {Q : Exit → Act → World → Prop} {k : Nat} {o : Oper}
theorem qg9 {listed:Array Bool}:∀ k,listed.getD k true=false→∃ j,j≤k∧listed.getD j true=false∧∀ i,i<j→listed.getD i true=true:=by
 intro k
 induction k using Nat.strongRecOn with
 | _ k ih=>
  intro h
  by_cases hall:∀ i,i<k→listed.getD i true=true
  ·exact⟨k,Nat.le_refl _,h,hall⟩
  ·have ⟨i,hi⟩:=Classical.not_forall.1 hall
   have ⟨hi1,hi2⟩:=Classical.not_imp.1 hi
   obtain⟨j,h1,h2,h3⟩:=ih i hi1 (by simpa using hi2)
   exact⟨j,by omega,h2,h3⟩
theorem qp1 {listed:Array Bool} {i:Nat} (h:listed.getD i true=true) (hi:i<listed.size):listed.getD i false=true:=by
 simp [Array.getD,hi] at h ⊢
 exact h
theorem qt2 {listed:Array Bool} {i:Nat} (h:listed.getD i true=false) (h2:listed.getD i false=true):False:=by
 unfold Array.getD at h h2
 by_cases hi:i<listed.size
 ·rw [dif_pos hi] at h h2
  rw [h] at h2
  cases h2
 ·rw [dif_neg hi] at h
  cases h
theorem qkr {listed:Array Bool} {j:Nat} (hsz:listed.size=ops.size) (hord:∀ (j:Nat) o,ops[j]? = some o→∀ e∈o.after,e.on<j) (hj:listed.getD j true=false) (hall:∀ i,i<j→listed.getD i true=true):j∈Region.ready md ops listed:=by
 have hlt:j<listed.size:=by
  rcases Nat.lt_or_ge j listed.size with h|h
  ·exact h
  ·simp [Array.getD,Nat.not_lt.2 h] at hj
 rw [mem_ready]
 have ho:ops[j]? = some ops[j]:=Array.getElem?_eq_getElem (by omega)
 exact⟨hj,_,ho,fun e he _=>qp1 (hall _ (hord j _ ho e he)) (by have:=hord j _ ho e he;omega)⟩
theorem qh6 {listed:Array Bool} (hs:ops.size=ops'.size) (hk:ops[k]? = some o) (hk':ops'[k]? = some (noop o)) (hoth:∀ j,j≠k→ops'[j]? = ops[j]?):Region.ready md ops' listed=Region.ready md ops listed:=by
 unfold Region.ready
 rw [hs]
 refine List.filter_congr fun i _=>?_
 by_cases h:i=k
 ·subst h;rw [hk,hk'];rfl
 ·rw [hoth i h]
theorem qtk (hd:o.dst=none) (hk:ops[k]? = some o) (hk':ops'[k]? = some (noop o)) (hoth:∀ j,j≠k→ops'[j]? = ops[j]?) (t:Array Value):yielded ops' t=yielded ops t:=by
 funext j
 unfold yielded
 by_cases h:j=k
 ·subst h;rw [hk,hk'];simp [noop,hd]
 ·rw [hoth j h]
theorem qjr (hro:F.round=none) (hsz:ops.size=ops'.size) (hk:ops[k]? = some o) (hk':ops'[k]? = some (noop o)) (hoth:∀ j,j≠k→ops'[j]? = ops[j]?) (hd:o.dst=none)
  (hord:∀ (j:Nat) o,ops[j]? = some o→∀ e∈o.after,e.on<j) (hcov:∀ j,j<ops.size→j≠k→∃ e∈o.after,Region.binds md e=true∧e.on=j) :
  ∀ (fuel:Nat) (listed:Array Bool) (a:Act) (w:World),C w→listed.size=ops.size→listed.getD k true=false→wpAnyQIn F n P md ops' C (fun a=>∀ w,C w→wpOpIn F n P ops Q k (Q .normal) a w) fuel listed a→wpAnyIn F n P md ops Q fuel listed a w
 | 0,listed,a,w,hC,hs,hun,h=>by
  have ⟨j,_,h2,h3⟩:=qg9 k hun
  have:=qkr (md:=md) hs hord h2 h3
  rw [← qh6 hsz hk hk' hoth,h.1] at this
  cases this
 |fuel+1,listed,a,w,hC,hs,hun,h=>by
  obtain⟨hq1,hq2⟩:=h
  rw [qh6 hsz hk hk' hoth] at hq1 hq2
  refine⟨fun h0=>?_,fun i hi=>?_⟩
  ·have ⟨j,_,h2,h3⟩:=qg9 k hun
   have:=qkr (md:=md) hs hord h2 h3
   rw [h0] at this
   cases this
  ·have hqi:=hq2 i hi
   by_cases hik:i=k
   ·subst hik
    obtain⟨_,o',ho',hall⟩:=mem_ready.1 hi
    rw [hk] at ho'
    cases ho'
    have hr:Region.ready md ops (listed.setIfInBounds i true)=[]:=by
     rw [List.eq_nil_iff_forall_not_mem]
     intro j hj
     obtain⟨hju,oj,hoj,_⟩:=mem_ready.1 hj
     have hjs:j<ops.size:=by
      rcases Nat.lt_or_ge j ops.size with h|h
      ·exact h
      ·rw [Array.getElem?_eq_none h] at hoj;cases hoj
     by_cases hji:j=i
     ·subst hji
      simp [Array.getD,hs,hjs] at hju
     ·obtain⟨e,he,hb,heq⟩:=hcov j hjs hji
      have h5:=hall e he hb
      rw [heq] at h5
      rw [getD_set_ne true (Ne.symm hji)] at hju
      exact qt2 hju h5
    unfold qOpIn at hqi
    rw [hk'] at hqi
    simp only at hqi
    have hqe:=hqi.2
    have hwn:Region.wanted (noop o) (yielded ops' a.tmps)=true:=by simp [noop,Region.wanted]
    rw [if_pos hwn] at hqe
    obtain⟨v,_,hK⟩:=hqe
    have hput:a.put (noop o).dst v=a:=by simp [noop,hd,Act.put]
    rw [hput] at hK
    have hQ':∀ w,C w→wpOpIn F n P ops Q i (Q .normal) a w:=by
     cases fuel with
     |zero=>exact hK.2
     |succ fuel=>exact hK.1 (by rw [qh6 hsz hk hk' hoth];exact hr)
    exact wpOpIn_mono (fun a' w' h'=>wpAnyIn_done hr h' _) (hQ' w hC)
   ·have he:qOpIn F n P ops C i (wpAnyQIn F n P md ops' C (fun a=>∀ w,C w→wpOpIn F n P ops Q k (Q .normal) a w) fuel (listed.setIfInBounds i true)) a:=by
     unfold qOpIn at hqi ⊢
     rw [hoth i hik] at hqi
     rw [← qtk hd hk hk' hoth]
     exact hqi
    refine wpOpIn_of_qOpIn hro hC (fun a' w' hC' hX=>qjr hro hsz hk hk' hoth hd hord hcov fuel _ a' w' hC' (by simpa using hs) ?_ hX) he
    rw [getD_set_ne true hik]
    exact hun
def qdn {α : Type}:List α→Option (List α×α)
 | []=>none
 | [x]=>some ([],x)
 |x::y::r=>match qdn (y::r) with
  |some (l,o)=>some (x::l,o)
  |none=>none
theorem qjn {α : Type}:∀ {L l:List α} {o : α},qdn L=some (l,o)→L=l++[o]
 | [],_,_,h=>by simp [qdn] at h
 | [x],_,_,h=>by simp [qdn] at h;obtain⟨rfl,rfl⟩:=h;rfl
 |x::y::r,l,o,h=>by
  unfold qdn at h
  split at h
  ·rename_i l' o' he
   simp only [Option.some.injEq,Prod.mk.injEq] at h
   obtain⟨rfl,rfl⟩:=h
   rw [qjn he]
   rfl
  ·simp at h
def quy (o:Oper) (k:Nat):Bool:=(List.range k).all fun j=>o.after.toList.any fun e=>Region.binds .any e && Nat.beq e.on j
def qsm (ops:List Oper):Bool:=(List.range ops.length).all fun j=>match ops[j]? with|some o=>o.after.toList.all fun e=>Nat.blt e.on j|none=>true
end
section
variable {E : Env} {N : Nat} {s : AS}
theorem qx8 {id:Nat} {L l:List Oper} {o:Oper} {Q:Exit→AS→Prop} (hsp:qdn L=some (l,o)) (hd:o.dst=none) (hcov:quy o l.length=true) (hord:qsm L=true) (hm:E.P.follows .mixedOrders=true) (hB:Region.lexB .any (l++[noop o]).toArray=true)
  (h:AQ E N (l++[noop o]).toArray l (fun s'=>AOps E none N L.toArray [o] (Q .normal) s') s):AWp E none N (.region id L.toArray true) Q s:=by
 have hLe:=qjn hsp
 subst hLe
 refine⟨fun B0 w0 G a w hL hI=>?_⟩
 have hB2:=hB
 simp only [Region.lexB,Bool.and_eq_true] at hB2
 have hk:(l++[o]).toArray[l.length]? = some o:=by simp
 have hk':(l++[noop o]).toArray[l.length]? = some (noop o):=by simp
 have hoth:∀ j,j≠l.length→(l++[noop o]).toArray[j]? = (l++[o]).toArray[j]?:=fun j hj=>by
  simp only [List.getElem?_toArray]
  rcases Nat.lt_or_ge j l.length with h|h
  ·rw [List.getElem?_append_left h,List.getElem?_append_left h]
  ·rw [List.getElem?_eq_none (by simp;omega),List.getElem?_eq_none (by simp;omega)]
 have hordP:∀ (j:Nat) o',(l++[o]).toArray[j]? = some o'→∀ e∈o'.after,e.on<j:=fun j o' hj e he=>by
  simp only [qsm,List.all_eq_true,List.mem_range] at hord
  simp only [List.getElem?_toArray] at hj
  have h1:=hord j (lt_of_getElem? hj)
  rw [hj] at h1
  simp only at h1
  have h2:=List.all_eq_true.1 h1 e (by simpa using he)
  exact Nat.le_of_ble_eq_true h2
 have hcovP:∀ j,j<(l++[o]).toArray.size→j≠l.length→∃ e∈o.after,Region.binds .any e=true∧e.on=j:=fun j hj hne=>by
  simp only [quy,List.all_eq_true,List.mem_range] at hcov
  have h1:=hcov j (by simp at hj;omega)
  obtain⟨e,he,h2⟩:=List.any_eq_true.1 h1
  simp only [Bool.and_eq_true] at h2
  exact⟨e,by simpa using he,h2.1,Nat.eq_of_beq_eq_true h2.2⟩
 have hBl:Below w.heap.size w { w with drawn:=w.drawn+1 }:=⟨rfl,rfl,rfl,Nat.le_refl _,fun _ _=>rfl⟩
 refine wpIn_region_any hm (qjr (C:=fun w'=>Below w.heap.size w w') (ops':=(l++[noop o]).toArray) (k:=l.length) rfl (by simp) hk hk' hoth hd hordP hcovP _ _ _ _ hBl (by simp) (by simp [Array.getD]) ?_)
 have hq:wpQuietIn (fw none) 0 E.P (l++[noop o]).toArray (fun w'=>Below w.heap.size w w') (fun a=>∀ w',Below w.heap.size w w'→wpOpIn (fw none) 0 E.P (l++[o]).toArray (fun e a' w'=>∃ (G':Gh) (s':AS),G.le G'∧Inv B0 w0 N G' s' a' w'∧Q e s') l.length (fun a' w'=>∃ (G':Gh) (s':AS),G.le G'∧Inv B0 w0 N G' s' a' w'∧Q .normal s') a w') (l++[noop o]) a:=by
  have step:∀ (l1:List Oper) (a:Act) (X:Act→Prop),wpQuietIn (fw none) 0 E.P (l++[noop o]).toArray (fun w'=>Below w.heap.size w w') X l1 a→wpQuietIn (fw none) 0 E.P (l++[noop o]).toArray (fun w'=>Below w.heap.size w w') X (l1++[noop o]) a:=by
   intro l1
   induction l1 with
   |nil=>
    intro a X hX
    refine⟨fun _ _ _ hf=>?_,?_⟩
    ·simp [Oper.about,noop] at hf
    ·have hwn:Region.wanted (noop o) (yielded (l++[noop o]).toArray a.tmps)=true:=by simp [noop,Region.wanted]
     rw [if_pos hwn]
     refine⟨undef,fun w' _=>?_,?_⟩
     ·unfold Oper.quietAtIn
      simp [noop,execOp,Oper.quietUponIn,Act.eval]
     ·have hput:a.put (noop o).dst undef=a:=by simp [noop,hd,Act.put]
      rw [hput]
      exact hX
   |cons o1 l1 ih=>
    intro a X hX
    refine⟨hX.1,?_⟩
    have h2:=hX.2
    split
    ·rename_i hw
     rw [if_pos hw] at h2
     obtain⟨v,h3,h4⟩:=h2
     exact⟨v,h3,ih _ _ h4⟩
    ·rename_i hw
     rw [if_neg hw] at h2
     exact ih _ _ h2
  refine step l a _ (h.run B0 w0 G a w hL hI _ fun s' a' hI' hst hks w' hw'=>?_)
  have hI2:Inv B0 w0 N G s' a' w':=⟨hI'.agree.fresh hw',hI'.defers,hI'.size,hI'.tmps⟩
  have hr:=hks.run B0 w0 G a' w' hL hI2 (fun e a' w'=>∃ (G':Gh) (s':AS),G.le G'∧Inv B0 w0 N G' s' a' w'∧Q e s') (fun G' s'' a'' w'' hG hI3 hQ=>⟨G',s'',hG,hI3,hQ⟩)
  unfold wpOpIn
  rw [hk]
  exact hr
 have:=wpAnyQIn_lex (F:=fw none) (n:=0) (C:=fun w'=>Below w.heap.size w w') (md:=.any) hB2.1 (l++[noop o]) 0 (Array.replicate (l++[noop o]).length false) a (by simp) (by simpa using hB2.2) hq
 simpa using this
variable {ops : Array Oper} {K : AS → Prop} {rest : List Oper} {d : Option Tmp} {T : TypeId} {p : String} {af : Array Edge}
theorem vk {x y:Operand} {t t':TypeId} {m n:List UInt8} (hx:qh N s x=Sv m) (hy:qh N s y=Sv n) (hl:m.length+n.length<9223372036854775808)
  (h:AQ E N ops rest K (s.put d (Sv (m++n)))):AQ E N ops (⟨d,.binOp .add t x y t',T,p,af,none⟩::rest) K s:=
 qa1 _ rfl nofun (fun a w he=>by
  simp only [execOp,he _ _ hx,he _ _ hy,eqGuard_at_string,binOp,Op.stringOp,qaq,qou,IntKind.max_i64]
  rw [if_neg (by omega)]
  simp) h
theorem qq2 {x y:Operand} {t e:TypeId} {sz:Nat} {agg:Bool} {xs:List AV} {tip:Option Nat} {k:IntKind} {i:Int} {n:Nat} {z:AV} (hx:qh N s x = .sl sz xs tip) (hy:qh N s y = .v (.int k i)) (hu:E.P.underlying t=some (.slice e)) (ht:tyOf E.P e=some (sz,agg)) (hi:i=n) (hz:xs[n]? = some z)
  (h:AQ E N ops rest K (s.put d (.pp z.cells))):AQ E N ops (⟨d,.indexAddr t x y,T,p,af,none⟩::rest) K s:=by
 refine qc4 rfl nofun fun B0 w0 G a w _ hI=>?_
 subst hi
 have he:=hI.eval_of hx
 have hey:=hI.evalv hy
 generalize hv:a.eval x=v at he
 have hlt:=lt_of_getElem? hz
 cases he with
 |sl0=>simp at hz
 |sl _ _ _ b off cap pub hp hw hlen hrel htip hcap=>
  have hzs:z.cells.length=sz:=hw z (List.mem_of_getElem? hz)
  have hfl:=jk hw
  have hle:(n+1) * sz≤xs.length * sz:=Nat.mul_le_mul_right _ hlt
  rw [Nat.succ_mul] at hle
  refine⟨.pointer (some ⟨b,off+n * sz,none⟩),.pp z.cells,fun w' _=>?_,?_,h⟩
  ·generalize a.eval = ρ at hv hey
   simp only [execOp,hv,hey]
   simp [Instr.indexAt,asIntOf,run_underlying hu,hlt,(wg ht w').1,Addr.add_lit]
  ·refine .pp _ b _ pub hp (by omega) fun j q r h1 h2=>?_
   have hj:j<sz:=by have:=lt_of_getElem? h1;omega
   have hf:=qfr hw hz j hj
   exact hrel (n * sz+j) q r (by rw [hf];exact h1) (by rw [← h2];congr 1;omega)
theorem ql6 {x y:Operand} {t e:TypeId} {sz:Nat} {agg:Bool} {o ver off len cp:Nat} {k:IntKind} {i:Int} {n:Nat} (hx:qh N s x = .os o ver off len cp) (hy:qh N s y = .v (.int k i)) (hu:E.P.underlying t=some (.slice e)) (ht:tyOf E.P e=some (sz,agg)) (hi:i=n) (hn:n<len)
  (h:AQ E N ops rest K (s.put d (.bx o ver (off+n * sz)))):AQ E N ops (⟨d,.indexAddr t x y,T,p,af,none⟩::rest) K s:=by
 refine qc4 rfl nofun fun B0 w0 G a w _ hI=>?_
 subst hi
 have he:=hI.eval_of hx
 have hey:=hI.evalv hy
 generalize hv:a.eval x=v at he
 cases he with
 |os _ _ _ _ b cap hn' hver hb=>
  refine⟨.pointer (some ⟨b,off+n * sz,none⟩),_,fun w' _=>?_,.bx o ver _ b hn' hver hb,h⟩
  generalize a.eval = ρ at hv hey
  simp only [execOp,hv,hey]
  simp [Instr.indexAt,asIntOf,run_underlying hu,hn,(wg ht w').1,Addr.add_lit]
theorem zu {t:TypeId} {x:Operand} {f off sz:Nat} {agg:Bool} {o ver q:Nat} (hx:qh N s x = .bx o ver q) (hf:qaz E.P t f=some (off,sz,agg)) (hsz:Nat.beq sz 0=false)
  (h:AQ E N ops rest K (s.put d (.bx o ver (q+off)))):AQ E N ops (⟨d,.fieldAddr t x f,T,p,af,none⟩::rest) K s:=by
 refine qc4 rfl nofun fun B0 w0 G a w _ hI=>?_
 have he:=hI.eval_of hx
 generalize hv:a.eval x=v at he
 cases he with
 |bx _ _ _ b hn hv' hb=>
  have hs:sz≠0:=fun e=>by subst e;simp at hsz
  exact⟨_,_,fun w' _=>by simp only [execOp,hv];simp [qej hf hs],.bx o ver _ b hn hv' hb,h⟩
theorem zv {t:TypeId} {x:Operand} {f off sz:Nat} {agg:Bool} {cs:List AV} (hx:qh N s x = .pp cs) (hf:qaz E.P t f=some (off,sz,agg)) (hsz:Nat.beq sz 0=false) (hle:Nat.ble off cs.length=true)
  (h:AQ E N ops rest K (s.put d (.pp (cs.drop off)))):AQ E N ops (⟨d,.fieldAddr t x f,T,p,af,none⟩::rest) K s:=by
 refine qc4 rfl nofun fun B0 w0 G a w _ hI=>?_
 have he:=hI.eval_of hx
 generalize hv:a.eval x=v at he
 cases he with
 |pp _ b q pub hp hlen hrel=>
  have hs:sz≠0:=fun e=>by subst e;simp at hsz
  have ho:off≤cs.length:=Nat.le_of_ble_eq_true hle
  refine⟨.pointer (some ⟨b,q+off,none⟩),_,fun w' _=>by simp only [execOp,hv];simp [qej hf hs],?_,h⟩
  exact .pp _ b (q+off) pub hp (by simp;omega) fun i x y h1 h2=>hrel (off+i) x y (by simpa using h1) (by rw [← h2];congr 1;omega)
theorem kh {x:Operand} {t:TypeId} {sz:Nat} {agg:Bool} {cs:List AV} {r:AV} (hx:qh N s x = .pp cs) (ht:tyOf E.P t=some (sz,agg)) (hr:wi sz agg 0 cs=some r)
  (h:AQ E N ops rest K (s.put d r)):AQ E N ops (⟨d,.load t x,T,p,af,none⟩::rest) K s:=by
 refine qc4 rfl nofun fun B0 w0 G a w _ hI=>?_
 have he:=hI.eval_of hx
 generalize hv:a.eval x=v at he
 cases he with
 |pp _ b off pub hp hlen hrel=>
  obtain⟨c,T',fz,hc,hcc⟩:=hI.agree.pub b pub hp
  have hlt:b<w.heap.size:=hI.agree.pub_lt hp
  have key:∀ w',Below w.heap.size w w'→∃ v,(loadVar t ⟨b,off,none⟩).run E.P w' = .ok v w'∧Rel G r v:=fun w' hw'=>by
   have h4':w'.heap[b]? = some (.cells c T' fz):=by rw [hw'.block _ hlt];exact hc
   exact qbh (w:=w') (G:=G) (b:=b) (off:=off) ht (fun i x hx _=>by
    have hi:=lt_of_getElem? hx
    have hy:pub[off+i]? = some (pub[off+i]'(by omega)):=List.getElem?_eq_getElem (by omega)
    refine⟨_,?_,hrel i x _ hx hy⟩
    simp [World.cell?,h4',hcc _ _ hy]) hr
  have hg:∀ w',Below w.heap.size w w'→∀ j,j<cs.length→w'.cell? ⟨b,off+j,none⟩=some (pub.getD (off+j) undef):=fun w' hw' j hj=>by
   have h4':w'.heap[b]? = some (.cells c T' fz):=by rw [hw'.block _ hlt];exact hc
   have hlt2:off+j<pub.length:=by omega
   have hy:pub[off+j]? = some (pub.getD (off+j) undef):=by simp [List.getD,hlt2]
   simp [World.cell?,h4',hcc _ _ hy]
  have hsame:∀ w',Below w.heap.size w w'→∀ v,(loadVar t ⟨b,off,none⟩).run E.P w = .ok v w→(loadVar t ⟨b,off,none⟩).run E.P w' = .ok v w':=fun w' hw' v hr1=>by
   obtain⟨i1,i2⟩:=wg ht w
   obtain⟨j1,j2⟩:=wg ht w'
   obtain⟨v',h1',_⟩:=key w' hw'
   rw [h1']
   congr 1
   cases agg with
   |false=>
    simp only [wi,cond_false] at hr
    have h0:=lt_of_getElem? hr
    have e1:=hg w (Below.refl _ _) 0 h0
    have e2:=hg w' hw' 0 h0
    rw [Nat.add_zero] at e1 e2
    simp [loadVar,i2,run_load,e1] at hr1
    simp [loadVar,j2,run_load,e2] at h1'
    rw [← h1',hr1]
   |true=>
    simp only [wi,cond_true] at hr
    cases hb2:Nat.ble (0+sz) cs.length with
    |false=>rw [hb2] at hr;simp at hr
    |true=>
     have hle:0+sz≤cs.length:=Nat.le_of_ble_eq_true hb2
     have l1:=run_loadCells (P:=E.P) (w:=w) ⟨b,off,none⟩ sz (fun j=>pub.getD (off+j) undef) (fun j hj=>by rw [Addr.add_lit];exact hg w (Below.refl _ _) j (by omega))
     have l2:=run_loadCells (P:=E.P) (w:=w') ⟨b,off,none⟩ sz (fun j=>pub.getD (off+j) undef) (fun j hj=>by rw [Addr.add_lit];exact hg w' hw' j (by omega))
     simp [loadVar,i1,i2,l1] at hr1
     simp [loadVar,j1,j2,l2] at h1'
     rw [← h1',hr1]
  obtain⟨v,hrun,hR⟩:=key w (Below.refl _ _)
  exact⟨v,r,fun w' hw'=>by simp only [execOp,hv,Instr.loadAt,Instr.sureAddr];simp [hsame w' hw' v hrun],hR,h⟩
theorem yo {x y:Operand} {t t':TypeId} {k:IntKind} {m n r:Int} (hx:qh N s x = .v (.int k m)) (hy:qh N s y = .v (.int k n)) (hr:k.wrap (m - n)=r)
  (h:AQ E N ops rest K (s.put d (.v (.int k r)))):AQ E N ops (⟨d,.binOp .sub t x y t',T,p,af,none⟩::rest) K s:=
 qa1 _ rfl nofun (fun a w he=>by rw [← hr];simp [execOp,he _ _ hx,he _ _ hy,eqGuard_at_int,binOp,Op.intArith]) h
theorem xv {x y z:Operand} {t:TypeId} {k k':IntKind} {l:List UInt8} {i j:Nat} (hx:qh N s x=Sv l) (hy:qh N s y = .v (.int k' (i:Int))) (hz:qh N s z = .v (.int k (j:Int))) (hu:E.P.underlying t=some .string) (h1:i≤j) (h2:j≤l.length)
  (h:AQ E N ops rest K (s.put d (Sv ((l.take j).drop i)))):AQ E N ops (⟨d,.slice t x (some y) (some z) none,T,p,af,none⟩::rest) K s:=
 qky (i:=i) (j:=j) hx hu ⟨_,hy⟩ ⟨_,hz⟩ (by omega) (by omega) (by omega) (by simpa using h)
theorem xq {x:Operand} {ts:Array TypeId} {t0 e:TypeId} {v:AV} {n:Nat} (hx:qh N s x=v) (hl:lenA v=some n) (ht:ts[0]? = some t0) (hu:E.P.underlying t0=some (.slice e))
  (h:AQ E N ops rest K (s.put d (Iv n))):AQ E N ops (⟨d,.call ⟨.builtin .len,#[x],ts⟩,T,p,af,none⟩::rest) K s:=by
 refine qc4 rfl nofun fun B0 w0 G a w _ hI=>?_
 have he:=hI.eval_of hx
 have key:∃ b c,a.eval x = .slice b n c:=by
  generalize a.eval x=u at he
  cases he <;> simp [lenA] at hl
  case v y=>
   cases u <;> simp at hl
   subst hl
   exact⟨_,_,rfl⟩
  case sl0=>subst hl;exact⟨_,_,rfl⟩
  case sl=>subst hl;exact⟨_,_,rfl⟩
  case os=>subst hl;exact⟨_,_,rfl⟩
 obtain⟨b,c,hv⟩:=key
 refine⟨.int .i64 n,Iv n,fun w' _=>?_,.v _,h⟩
 generalize a.eval = ρ at hv
 simp [execOp,resolve,invoke,builtin,Builtin.len_,hv,ht,run_underlying hu,goInt]
theorem j7 {x:Operand} {t:TypeId} {sz:Nat} {agg:Bool} {st loc ext new:List AObj} {k ver off:Nat} {T':TypeId} {cs:List AV} {r:AV} (hs:s.st=((st++loc)++ext)++new) (hx:qh N s x = .bx (st.length+k) ver off) (ho:loc[k]? = some (.cells ver T' cs)) (ht:tyOf E.P t=some (sz,agg)) (hr:wi sz agg off cs=some r)
  (h:AQ E N ops rest K (s.put d r)):AQ E N ops (⟨d,.load t x,T,p,af,none⟩::rest) K s:=
 ql7 hx (by rw [hs];exact qdj ho) ht hr h
end
end Go.Av
namespace Go.Av
open Go Go.RowKit
section
variable {B0 : Nat} {w0 : World} {G : Gh} {st : List AObj} {w : World}
theorem q5.pubOb (h:q5 B0 w0 G st w) {o ver:Nat} {T:TypeId} {cs:List AV} (ho:st[o]? = some (.cells ver T cs)) :
  ∃ vs:List Value,G.le (G.publish (G.ob o).blk vs)∧q5 B0 w0 (G.publish (G.ob o).blk vs) (st.set o .dead) w∧(G.ob o).ver=ver∧(G.publish (G.ob o).blk vs).pub (G.ob o).blk=some vs∧cs.length=vs.length ∧
   ∀ (i:Nat) (x:AV) (y:Value),cs[i]? = some x→vs[i]? = some y→Rel (G.publish (G.ob o).blk vs) x y:=by
 obtain⟨h0,h1,h2,h3,c,h4,h5,h6⟩:=h.ob o _ ho
 have hle:G.le (G.publish (G.ob o).blk c.toList):=G.le_publish _ _ [] [] (.inl h3)
 refine⟨c.toList,hle,?_,h1,by simp [Gh.publish],by simpa using h5,fun i x y hx hy=>(h6 i x y hx (by simpa using hy)).mono hle⟩
 have key:∀ (k:Nat) (x:AObj),(st.set o .dead)[k]? = some x→x = .dead∨(k≠o∧st[k]? = some x):=fun k x hx=>by
  rcases getElem?_set' _ _ _ _ _ hx with⟨_,e⟩|e
  ·exact .inl e
  ·exact .inr e
 refine⟨h.below,h.hB,by simp [h.n,Gh.publish],fun b vs hb=>?_,fun k x hx=>?_,fun k k' x x' hne hx hx' hl hl'=>?_⟩
 ·simp only [Gh.publish] at hb
  by_cases e:b=(G.ob o).blk
  ·rw [if_pos e] at hb
   cases hb
   subst e
   exact⟨c,T,(0,0),h4,fun i y hy=>by simpa using hy⟩
  ·rw [if_neg e] at hb
   exact h.pub b vs hb
 ·rcases key k x hx with rfl | ⟨hk,hx⟩
  ·trivial
  ·refine (h.ob k x hx).mono hle rfl (fun hl=>?_) (fun _=>rfl)
   have:=h.sep k o x _ hk hx ho hl trivial
   simp [Gh.publish,this]
 ·rcases key k x hx with rfl | ⟨hk,hx⟩
  ·exact hl.elim
  ·rcases key k' x' hx' with rfl | ⟨hk',hx'⟩
   ·exact hl'.elim
   ·exact h.sep k k' x x' hne hx hx' hl hl'
end
section
variable {E : Env} {rd : Option Nat} {N : Nat} {ops : Array Oper} {K : AS → Prop} {s : AS} {rest : List Oper} {d : Option Tmp} {T : TypeId} {p : String} {af : Array Edge}
theorem Inv.pub {B0:Nat} {w0:World} {G:Gh} {a:Act} {w:World} (h:Inv B0 w0 N G s a w) {i o ver:Nat} {T':TypeId} {cs:List AV} (hi:s.t i = .bx o ver 0) (ho:s.st[o]? = some (.cells ver T' cs)) :
  ∃ G',G.le G'∧Inv B0 w0 N G' ⟨Av.put s.t i (.pp cs),s.st.set o .dead,s.df⟩ a w:=by
 obtain⟨vs,hle,hA,hv,hp,hl,hr⟩:=h.agree.pubOb ho
 refine⟨_,hle,hA,h.defers_mono hle,h.size,fun j y hy=>?_⟩
 have hj:=h.tmps j y hy
 by_cases e:j=i
 ·subst e
  simp only [yl]
  rw [hi] at hj
  cases hj with
  |bx _ _ _ b hn hv' hb=>
   have hb:=hb hv
   subst hb
   exact .pp cs _ 0 vs hp (by omega) fun k x y hx hy=>hr k x y hx (by simpa using hy)
 ·simp only
  rw [qav _ _ _ _ e]
  exact hj.mono hle
theorem jb {x y:Operand} {t:TypeId} {sz:Nat} {agg:Bool} {st loc loc' ext new:List AObj} {k ver off:Nat} {T':TypeId} {cs xs:List AV} {r:AV} (hs:s.st=((st++loc)++ext)++new) (hx:qh N s x = .bx (st.length+k) ver off) (hy:qh N s y=r) (ho:loc[k]? = some (.cells ver T' cs)) (ht:tyOf E.P t=some (sz,agg))
  (hok:r.okc=true) (hc:r.cells=xs) (hsz:Nat.beq xs.length sz=true) (h1:wh xs=true) (hfit:Nat.ble (off+sz) cs.length=true) (hl:loc'=loc.set k (.cells ver T' (jd cs off xs)))
  (h:AOps E rd N ops rest K (AS.put ⟨s.t,((st++loc')++ext)++new,s.df⟩ d (.v undef))):AOps E rd N ops (⟨d,.store t x y,T,p,af,none⟩::rest) K s:=by
 have hk:=lt_of_getElem? ho
 exact qbt hx hy (by rw [hs];exact qdj ho) ht hok hc hsz h1 hfit (by rw [hs,qhd _ hk,← hl];exact h)
end
theorem qib {α : Type} (l:List α) (a : α):(l++[a]).length=l.length+1:=by simp
theorem q3z {α : Type} (l:List α) (a : α):Iv ((l.length:Int)+1)=Iv ((l++[a]).length:Nat):=by rw [qib];rfl
theorem q2i {α : Type} {sz:Nat} {tip:Option Nat} (x0:AV) (g : α→AV) (pre:List α) (a : α) (v:AV) (h:v=g a):AV.sl sz ((x0::pre.map g)++[v]) tip=AV.sl sz (x0::(pre++[a]).map g) tip:=by rw [List.map_append,h];rfl
theorem qiv {E:Env} {rd:Option Nat} {N:Nat} {c:Code} {Q:Exit→AS→Prop} {s:AS} {α : Type} (xs:List α) (I:List α→AS→Prop) (h0:I [] s) (hend:∀ s,I xs s→AWp E rd N c (qqm (fun _=>False) Q) s)
  (hstep:∀ pre a rest s,xs=pre++a::rest→I pre s→AWp E rd N c (qqm (fun s'=>I (pre++[a]) s') Q) s):AWp E rd N (.loop c) Q s:=by
 refine qcd (fun (x:List α×List α) s=>xs=x.1++x.2∧I x.1 s) (fun x=>x.2.length) ([],xs) ⟨rfl,h0⟩ ?_
 rintro⟨pre,rest⟩ s ⟨hx,hi⟩
 cases rest with
 |nil=>
  simp only [List.append_nil] at hx
  subst hx
  refine (hend s hi).mono fun e s' h=>?_
  cases e with
  |normal=>exact h.elim
  | _=>exact h
 |cons a rest=>
  refine (hstep pre a rest s hx hi).mono fun e s' h=>?_
  cases e with
  |normal=>exact⟨(pre++[a],rest),⟨by rw [hx];simp,h⟩,by simp⟩
  | _=>exact h
end Go.Av
namespace Go.Pl
open Go Go.Proofs
abbrev Fld:=qd×qd
def qdb (s:qd):Prop:=∀ c∈s,yt c
instance (s:qd):Decidable (qdb s):=inferInstanceAs (Decidable (∀ c∈s,yt c))
def x3 (s:qd):qd:=if qdb s∨s.head? = some 46 then 46::s else s
def wm (key p:qd):qd:=key++[58]++if p=[] then [] else [32]++p
def jx (f:Fld):List qd:=wm f.1 ((je f.2).headD [])::(je f.2).tail.map fun s=>[32]++x3 s
def z6 (ls:List qd):qd:=ls.flatMap fun s=>s++[10]
def wx (xs:List Fld):qd:=xs.flatMap fun f=>z6 (jx f)
def wv (f:Fld):Int:=if ¬ qbq f.1 then 5 else if 1000<f.2.length then 6 else 0
def vb (f:Fld):Prop:=qbq f.1∧f.2.length≤1000
instance (f:Fld):Decidable (vb f):=inferInstanceAs (Decidable (_∧_))
theorem qbz (f:Fld):wv f=0↔vb f:=by
 unfold wv vb
 by_cases h:qbq f.1
 ·by_cases h2:1000<f.2.length
  ·simp [h,h2]
  ·simp [h,h2];omega
 ·simp [h]
def y3 (c:UInt8) (l:qd):qd:=if l.head? = some c then l.drop 1 else l
theorem qoq (c:UInt8) (l:qd):Lib.trimPrefix l [c]=y3 c l:=by
 unfold Lib.trimPrefix y3
 rw [qin]
 simp
def qax (l:qd) (r:List qd):qd:=y3 32 (y8 l)++r.flatMap fun s=>[10]++y3 46 (s.drop 1)
def qls (ls:List qd):Prop:=ls≠[]∧qq (ls.headD [])=4∧∀ s∈ls.tail,qq s=3
instance (ls:List qd):Decidable (qls ls):=inferInstanceAs (Decidable (_∧_∧_))
def jm (ls:List qd):Fld×Int:=
 if qls ls then
  if 1000<(qax (ls.headD []) ls.tail).length then (([],[]),6) else ((ke (ls.headD []),qax (ls.headD []) ls.tail),0)
 else (([],[]),2)
theorem qng (l:qd):je l≠[]:=by
 by_cases h:10∈l
 ·rw [qc2 h];simp
 ·rw [qc3 h];simp
theorem qnf (l:qd):je l=(je l).headD []::(je l).tail:=by
 cases h:je l with
 |nil=>exact absurd h (qng l)
 |cons a r=>rfl
theorem qh2:∀ (n:Nat) (l:qd),l.length≤n→(je l).headD []++(je l).tail.flatMap (fun s=>[10]++s)=l
 |n,l,hn=>by
  by_cases h:10∈l
  ·rw [qc2 h]
   have hne:l≠[]:=fun e=>by subst e;simp at h
   have hlt:=qcq (c:=10) hne
   cases n with
   |zero=>omega
   |succ n=>
    have ih:=qh2 n (past 10 l) (by omega)
    simp only [List.headD_cons,List.tail_cons]
    rw [qnf (past 10 l)]
    simp only [List.flatMap_cons]
    rw [List.append_assoc,ih]
    have:=qdo h
    simp [← this]
  ·rw [qc3 h];simp
theorem qdx (l:qd):∀ x∈je l,10∉x:=fun x hx=>(qew l.length l (Nat.le_refl _) x hx).2
theorem qkq (l:qd):∀ x∈je l,x.length≤l.length:=fun x hx=>(qew l.length l (Nat.le_refl _) x hx).1
theorem qk9 (l:qd):(je l).headD []∈je l:=by
 have h:=qng l
 cases e:je l with
 |nil=>exact absurd e h
 |cons a r=>simp
theorem qur (s:qd):y3 46 (x3 s)=s:=by
 unfold x3 y3
 by_cases h:qdb s∨s.head? = some 46
 ·rw [if_pos h];simp
 ·rw [if_neg h,if_neg (fun h'=>h (.inr h'))]
theorem qom (s:qd):¬ qdb (x3 s):=by
 unfold x3
 by_cases h:qdb s∨s.head? = some 46
 ·rw [if_pos h]
  intro h'
  have:=h' 46 (by simp)
  revert this;decide
 ·rw [if_neg h]
  exact fun h'=>h (.inl h')
theorem qnq {s:qd} (h:10∉s):10∉x3 s:=by
 unfold x3
 split
 ·simp [h]
 ·exact h
theorem qpl (s:qd):(x3 s).length≤s.length+1:=by
 unfold x3
 split <;> simp
theorem qpa (s:qd) (h:10∉s):qq ([32]++x3 s)=3:=by
 have hn:=qnq h
 have hb:=qom s
 unfold qq
 have h10:10∉([32]++x3 s):=by simp [hn]
 rw [if_neg h10,if_neg (fun h'=>hb fun c hc=>h' c (by simp [hc])),if_neg (by simp),if_pos ⟨32,by simp,.inl rfl⟩]
theorem qgt {k r:qd} (h:58∉k):ke (k++[58]++r)=k:=by
 unfold ke
 induction k with
 |nil=>simp
 |cons a k ih=>
  simp only [List.mem_cons,not_or] at h
  have:(58:UInt8)≠a:=h.1
  simp only [List.cons_append,List.takeWhile_cons]
  rw [if_pos (by simpa using fun e=>this e.symm)]
  rw [ih h.2]
theorem qsz {k r:qd} (h:58∉k):y8 (k++[58]++r)=r:=by
 unfold y8
 rw [qgt h]
 rw [List.drop_append_of_le_length (by simp)]
 simp
theorem qgj {k:qd} (h:qbq k):∃ c,k.head? = some c∧¬ yt c∧c≠35:=by
 obtain⟨h1,h2,h3,h4,h5,h6⟩:=h
 cases k with
 |nil=>exact absurd rfl h1
 |cons a r=>exact⟨a,rfl,fun hb=>h3 ⟨a,rfl,hb⟩,fun e=>h4 (by simp [e])⟩
theorem qo9 {k p:qd} (h:qbq k) (hp:10∉p):qq (wm k p)=4:=by
 obtain⟨c,hc,hb,h35⟩:=qgj h
 have hk10:10∉k:=h.2.2.2.2.2
 have hk58:58∉k:=h.2.2.2.2.1
 have hh:(wm k p).head? = some c:=by
  unfold wm
  cases k with
  |nil=>simp at hc
  |cons a r=>simpa using hc
 have e:wm k p=k++[58]++(if p=[] then [] else [32]++p):=rfl
 have h10:10∉wm k p:=by
  rw [e]
  split <;> simp [hk10,hp]
 have hmem:c∈wm k p:=List.mem_of_head? hh
 unfold qq
 rw [if_neg h10,if_neg (fun h'=>hb (h' c hmem)),if_neg (by rw [hh];simpa using h35),if_neg (fun ⟨d,hd,hd'⟩=>by rw [hh] at hd;cases hd;exact hb hd')]
 rw [if_pos]
 refine⟨by rw [e];simp,?_⟩
 rw [e,qgt hk58]
 exact h
theorem qy3 (k p:qd) (h:58∉k):y3 32 (y8 (wm k p))=p:=by
 unfold wm
 rw [qsz h]
 by_cases hp:p=[]
 ·rw [if_pos hp];simp [y3,hp]
 ·rw [if_neg hp];simp [y3]
theorem qp3 {f:Fld} (h:vb f):jm (jx f)=(f,0):=by
 obtain⟨hk,hv⟩:=h
 have hk58:58∉f.1:=hk.2.2.2.2.1
 have h10:=qdx f.2
 have hval:qax (wm f.1 ((je f.2).headD [])) ((je f.2).tail.map fun s=>[32]++x3 s)=f.2:=by
  unfold qax
  rw [qy3 _ _ hk58]
  have:((je f.2).tail.map fun s=>[32]++x3 s).flatMap (fun s=>[10]++y3 46 (s.drop 1))=(je f.2).tail.flatMap (fun s=>[10]++s):=by
   rw [List.flatMap_map]
   congr 1
   funext s
   simp [qur]
  rw [this,qh2 _ _ (Nat.le_refl _)]
 unfold jm jx
 rw [if_pos]
 ·simp only [List.headD_cons,List.tail_cons]
  refine (if_neg (by rw [hval];omega)).trans ?_
  have:ke (wm f.1 ((je f.2).headD []))=f.1:=qgt hk58
  rw [this,hval]
 ·refine⟨by simp,?_,?_⟩
  ·simp only [List.headD_cons]
   exact qo9 hk (h10 _ (qk9 _))
  ·intro s hs
   simp only [List.tail_cons,List.mem_map] at hs
   obtain⟨x,hx,rfl⟩:=hs
   exact qpa x (h10 x (List.mem_of_mem_tail hx))
end Go.Pl
namespace Go.Av
open Go Go.RowKit
section
variable {E : Env} {rd : Option Nat} {N : Nat} {ops : Array Oper} {K : AS → Prop} {s : AS} {rest : List Oper} {d : Option Tmp} {T : TypeId} {p : String} {af : Array Edge}
theorem qbj {t e:TypeId} {len sz:Nat} {agg:Bool} {parts:Array (Nat×Operand)} {zs cs:List AV} {st loc:List AObj} (hst:s.st=st++loc) (hu:E.P.underlying t=some (.slice e)) (ht:tyOf E.P e=some (sz,agg)) (hz:qd1 E.P e len=some zs)
  (hf:qbo (fun i=>some (i * sz,sz)) zs (ww N s parts)=some cs) (hsz:Nat.ble (len * sz) 16777216=true)
  (h:AOps E rd N ops rest K (AS.put ⟨s.t,st++(loc++[.cells 0 e cs]),s.df⟩ d (.os (st.length+loc.length) 0 0 len len))):AOps E rd N ops (⟨d,.buildSlice t len parts,T,p,af,none⟩::rest) K s:=by
 refine qt rfl (qs nofun fun B0 w0 G a w _ hI=>?_)
 obtain⟨c',hrun,h2⟩:=qg2 (d:=d) (T:=T) (p:=p) (af:=af) hI hu ht hz hf hsz
 have hA:=hI.agree.newCells e c' cs h2.1 h2.2
 have hn:=hI.agree.n
 rw [hst] at hA hn
 simp only [List.append_assoc,List.length_append] at hA hn
 exact⟨_,_,_,_,_,hrun,G.le_new _ _ _ _,hA,.os _ _ _ _ _ _ (by simp [Gh.new,hn]) (Nat.zero_le _) (fun _=>by simp [Gh.new,hn]),h⟩
theorem q5.ownTip {B0:Nat} {w0:World} {G:Gh} {st:List AObj} {w:World} (h:q5 B0 w0 G st w) {o sz len cap:Nat} {T:TypeId} {cs:List AV} {xs:List AV} (ho:st[o]? = some (.cells 0 T cs)) (hc:cs.length=cap * sz) (hlen:xs.length=len) (h0:0<len) (hle:len≤cap) (hcm:cap≤maxLen) (hw:∀ x∈xs,x.cells.length=sz) (hfl:flat xs=cs.take (len * sz)) :
  ∃ G',G.le G'∧q5 B0 w0 G' (st.set o (.tip len sz T)) w∧Rel G' (.sl sz xs (some o)) (.slice (some ⟨(G.ob o).blk,0,none⟩) len cap):=by
 subst hlen
 have hon:=lt_of_getElem? ho
 obtain⟨g0,g1,g2,g3,c,g4,g5,g6⟩:=h.ob o _ ho
 have hle1:G.le (G.publish (G.ob o).blk (c.toList.take (xs.length * sz))):=G.le_publish _ _ [] [] (.inl g3)
 -- dead, published
 have key:∀ (k:Nat) (x:AObj),(st.set o .dead)[k]? = some x→x = .dead∨(k≠o∧st[k]? = some x):=fun k x hx=>by
  rcases getElem?_set' _ _ _ _ _ hx with⟨_,e⟩|e
  ·exact .inl e
  ·exact .inr e
 have hA1:q5 B0 w0 (G.publish (G.ob o).blk (c.toList.take (xs.length * sz))) (st.set o .dead) w:=by
  refine⟨h.below,h.hB,by simp [h.n,Gh.publish],fun b vs hb=>?_,fun k x hx=>?_,fun k k' x x' hne hx hx' hl hl'=>?_⟩
  ·simp only [Gh.publish] at hb
   by_cases e:b=(G.ob o).blk
   ·rw [if_pos e] at hb
    cases hb
    subst e
    refine⟨c,T,(0,0),g4,fun i y hy=>?_⟩
    rw [List.getElem?_take] at hy
    split at hy
    ·simpa using hy
    ·simp at hy
   ·rw [if_neg e] at hb
    exact h.pub b vs hb
  ·rcases key k x hx with rfl | ⟨hk,hx⟩
   ·trivial
   ·refine (h.ob k x hx).mono hle1 rfl (fun hl=>?_) (fun _=>rfl)
    have:=h.sep k o x _ hk hx ho hl trivial
    simp [Gh.publish,this]
  ·rcases key k x hx with rfl | ⟨hk,hx⟩
   ·exact hl.elim
   ·rcases key k' x' hx' with rfl | ⟨hk',hx'⟩
    ·exact hl'.elim
    ·exact h.sep k k' x x' hne hx hx' hl hl'
 have hvl:(c.toList.take (xs.length * sz)).length=xs.length * sz:=by
  have:xs.length * sz≤cap * sz:=Nat.mul_le_mul_right _ hle
  simp
  omega
 obtain⟨hle2,hA2⟩:=hA1.setTip (t:=o) (n:=0) (n':=xs.length) (k:=(G.ob o).blk) (cap:=c.size) (sz:=sz) (T:=T) (c:=c) (vs:=c.toList.take (xs.length * sz)) (by simp [hon]) g0 g1 h0 g4 (by simp [Gh.publish]) hvl rfl g2 (fun k x hx hl=>by
  rcases key k x hx with rfl | ⟨hk,hx⟩
  ·exact hl.elim
  ·exact h.sep k o x _ hk hx ho hl trivial)
 rw [List.set_set] at hA2
 refine⟨_,hle1.trans hle2,hA2,?_⟩
 have hgn:o<G.n:=by rw [h.n];exact hon
 refine .sl sz xs (some o) (G.ob o).blk 0 cap (c.toList.take (xs.length * sz)) (by simp [Gh.setOb,Gh.publish]) hw (by rw [hfl,hvl];simp;omega) (fun i x y h1 h2=>?_) (fun t ht=>?_) (by omega)
 ·rw [hfl] at h1
  rw [Nat.zero_add] at h2
  rw [List.getElem?_take] at h1 h2
  split at h1
  ·rename_i hi
   rw [if_pos hi] at h2
   exact ((g6 i x y h1 (by simpa using h2)).mono hle1).mono hle2
  ·simp at h1
 ·simp only [Option.some.injEq] at ht
  subst ht
  refine⟨by simpa [Gh.setOb,Gh.publish] using hgn,by omega,by simp [Gh.setOb],fun _=>⟨by simp [Gh.setOb],rfl,by simp [Gh.setOb,← g5,hc],hcm,by omega⟩⟩
theorem Inv.osTip {B0:Nat} {w0:World} {G:Gh} {a:Act} {w:World} (h:Inv B0 w0 N G s a w) {i o sz len cap:Nat} {T':TypeId} {cs xs:List AV} (hi:s.t i = .os o 0 0 len cap) (ho:s.st[o]? = some (.cells 0 T' cs)) (hc:cs.length=cap * sz) (hlen:xs.length=len) (h0:0<len) (hle:len≤cap) (hcm:cap≤maxLen) (hw:∀ x∈xs,x.cells.length=sz) (hfl:flat xs=cs.take (len * sz)) :
  ∃ G',G.le G'∧Inv B0 w0 N G' ⟨Av.put s.t i (.sl sz xs (some o)),s.st.set o (.tip len sz T'),s.df⟩ a w:=by
 obtain⟨G',hG,hA,hR⟩:=h.agree.ownTip ho hc hlen h0 hle hcm hw hfl
 obtain⟨_,g1,_⟩:=h.agree.ob o _ ho
 refine⟨G',hG,hA,h.defers_mono hG,h.size,fun j y hy=>?_⟩
 have hj:=h.tmps j y hy
 by_cases e:j=i
 ·subst e
  simp only [yl]
  rw [hi] at hj
  cases hj with
  |os _ _ _ _ b _ hn hv hb=>
   have hb:=hb g1
   subst hb
   exact hR
 ·simp only
  rw [qav _ _ _ _ e]
  exact hj.mono hG
theorem qya {c:Code} {Q:Exit→AS→Prop} (i:Nat) {o sz len cap:Nat} {T':TypeId} {cs xs:List AV} (hi:s.t i = .os o 0 0 len cap) (ho:s.st[o]? = some (.cells 0 T' cs)) (hc:cs.length=cap * sz) (hlen:xs.length=len) (h0:0<len) (hle:len≤cap) (hcm:cap≤maxLen) (hw:∀ x∈xs,x.cells.length=sz) (hfl:flat xs=cs.take (len * sz))
  (h:AWp E rd N c Q ⟨Av.put s.t i (.sl sz xs (some o)),s.st.set o (.tip len sz T'),s.df⟩):AWp E rd N c Q s:=
 ⟨fun B0 w0 G a w hL hI=>let ⟨G1,h1,h2⟩:=hI.osTip hi ho hc hlen h0 hle hcm hw hfl;wpIn_mono (h.run B0 w0 _ a w hL h2) fun _ _ _ ⟨G',s',hG,k1,k2⟩=>⟨G',s',h1.trans hG,k1,k2⟩⟩
theorem qv0 {l:List Oper} (i:Nat) {o sz len cap:Nat} {T':TypeId} {cs xs:List AV} (hi:s.t i = .os o 0 0 len cap) (ho:s.st[o]? = some (.cells 0 T' cs)) (hc:cs.length=cap * sz) (hlen:xs.length=len) (h0:0<len) (hle:len≤cap) (hcm:cap≤maxLen) (hw:∀ x∈xs,x.cells.length=sz) (hfl:flat xs=cs.take (len * sz))
  (h:AOps E rd N ops l K ⟨Av.put s.t i (.sl sz xs (some o)),s.st.set o (.tip len sz T'),s.df⟩):AOps E rd N ops l K s:=
 ⟨fun B0 w0 G a w hL hI Q hQ=>let ⟨G1,h1,h2⟩:=hI.osTip hi ho hc hlen h0 hle hcm hw hfl;h.run B0 w0 _ a w hL h2 Q fun G' s' a' w' hG k1 k2=>hQ G' s' a' w' (h1.trans hG) k1 k2⟩
theorem Inv.osPub {B0:Nat} {w0:World} {G:Gh} {a:Act} {w:World} (h:Inv B0 w0 N G s a w) {i o ver off sz len cap:Nat} {T':TypeId} {cs xs:List AV} (hi:s.t i = .os o ver off len cap) (ho:s.st[o]? = some (.cells ver T' cs)) (hlen:xs.length=len) (hle:len≤cap) (hw:∀ x∈xs,x.cells.length=sz) (hin:off+len * sz≤cs.length) (hfl:flat xs=(cs.drop off).take (len * sz)) :
  ∃ G',G.le G'∧Inv B0 w0 N G' ⟨Av.put s.t i (.sl sz xs none),s.st.set o .dead,s.df⟩ a w:=by
 obtain⟨vs,hle1,hA,hv,hp,hl,hr⟩:=h.agree.pubOb ho
 refine⟨_,hle1,hA,h.defers_mono hle1,h.size,fun j y hy=>?_⟩
 have hj:=h.tmps j y hy
 by_cases e:j=i
 ·subst e
  simp only [yl]
  rw [hi] at hj
  cases hj with
  |os _ _ _ _ b _ hn hv' hb=>
   have hb:=hb hv
   subst hb
   rw [← hlen]
   refine .sl sz xs none _ off cap vs hp hw (by rw [hfl];simp;omega) (fun k x y hx hy=>?_) (fun t ht=>by simp at ht) (by omega)
   rw [hfl,List.getElem?_take] at hx
   split at hx
   ·rw [List.getElem?_drop] at hx
    exact hr _ x y hx hy
   ·simp at hx
 ·simp only
  rw [qav _ _ _ _ e]
  exact hj.mono hle1
theorem qnn {P:Program} {t e:TypeId} {sz:Nat} {agg:Bool} (hu:P.underlying t=some (.slice e)) (ht:tyOf P e=some (sz,agg)) (a:Option Addr) (len cap:Nat) (lo hi:Option Value) (i j:Nat) (w:World)
  (hlo:match lo with|none=>i=0|some v=>∃ k,v = .int k (i:Int)) (hhi:match hi with|none=>j=len|some v=>(∃ k,v = .int k (j:Int))∧j≤cap) (h1:i≤j) :
  (Instr.slice t (.slice a len cap) lo hi none).run P w = .ok (.slice (if cap=i then a else a.map (·.add (i * sz))) (j - i) (cap - i)) w:=by
 have hs:=(wg ht w).1
 cases lo with
 |none=>
  simp only at hlo
  subst hlo
  cases hi with
  |none=>
   simp only at hhi
   subst hhi
   simp [Instr.slice,run_underlying hu,Instr.sliceBounds,hs]
  |some v=>
   obtain⟨⟨k,rfl⟩,h2⟩:=hhi
   simp [Instr.slice,run_underlying hu,Instr.sliceBounds,Instr.sliceBound,asIntOf,hs,h2]
 |some u=>
  obtain⟨k',rfl⟩:=hlo
  cases hi with
  |none=>
   simp only at hhi
   subst hhi
   simp [Instr.slice,run_underlying hu,Instr.sliceBounds,Instr.sliceBound,asIntOf,hs,h1]
  |some v=>
   obtain⟨⟨k,rfl⟩,h2⟩:=hhi
   simp [Instr.slice,run_underlying hu,Instr.sliceBounds,Instr.sliceBound,asIntOf,hs,h1,h2]
theorem qnj {G:Gh} {sz:Nat} {xs:List AV} {tip:Option Nat} {a:Option Addr} {len cap:Nat} (h:Rel G (.sl sz xs tip) (.slice a len cap)) {i j:Nat} (h1:i≤j) (h2:j≤xs.length) :
  len=xs.length∧len≤cap∧Rel G (.sl sz ((xs.take j).drop i) none) (.slice (if cap=i then a else a.map (·.add (i * sz))) (j - i) (cap - i)):=by
 cases h with
 |sl0=>
  simp at h2
  subst h2
  have:i=0:=by omega
  subst this
  refine⟨rfl,Nat.zero_le _,?_⟩
  simp
  exact .sl0 sz none _ _ (by simp)
 |sl _ _ _ b off cap pub hp hw hlen hr ht hcap=>
  refine⟨rfl,hcap,?_⟩
  have hl:((xs.take j).drop i).length=j - i:=by simp;omega
  by_cases hji:j=i
  ·subst hji
   have e:(xs.take j).drop j=[]:=List.length_eq_zero_iff.1 (by rw [hl];omega)
   rw [e,Nat.sub_self]
   exact .sl0 sz none _ _ (by simp)
  ·have hne:cap≠i:=by omega
   rw [if_neg hne]
   simp only [Option.map_some]
   have hadd:Addr.add ⟨b,off,none⟩ (i * sz)=⟨b,off+i * sz,none⟩:=Addr.add_lit ..
   rw [hadd,← hl]
   have hw':∀ x∈(xs.take j).drop i,x.cells.length=sz:=fun x hx=>hw x (List.mem_of_mem_take (List.mem_of_mem_drop hx))
   have hfx:(flat xs).length=xs.length * sz:=jk hw
   have hsplit:flat xs=flat (xs.take i)++flat ((xs.take j).drop i)++flat (xs.drop j):=by
    have e:xs.take i++(xs.take j).drop i=xs.take j:=by
     conv=>rhs;rw [← List.take_append_drop i (xs.take j),List.take_take,Nat.min_eq_left h1]
    rw [← yf,← yf,e,List.take_append_drop]
   have hti:(flat (xs.take i)).length=i * sz:=by
    rw [jk (fun x hx=>hw x (List.mem_of_mem_take hx)),List.length_take,Nat.min_eq_left (by omega)]
   have hmid:(flat ((xs.take j).drop i)).length=(j - i) * sz:=by rw [jk hw',hl]
   refine .sl sz _ none b (off+i * sz) (cap - i) pub hp hw' ?_ (fun k x y hx hy=>?_) (fun t ht=>by simp at ht) (by rw [hl];omega)
   ·have:=congrArg List.length hsplit
    simp only [List.length_append] at this
    omega
   ·refine hr (i * sz+k) x y ?_ (by rw [← hy];congr 1;omega)
    have hk:=lt_of_getElem? hx
    rw [hsplit,List.append_assoc,List.getElem?_append_right (by omega),hti,Nat.add_sub_cancel_left,List.getElem?_append_left hk]
    exact hx
theorem qtr {x:Operand} {t e:TypeId} {lo hi:Option Operand} {sz:Nat} {agg:Bool} {xs ys:List AV} {tip:Option Nat} {i j:Nat} (hx:qh N s x = .sl sz xs tip) (hu:E.P.underlying t=some (.slice e)) (ht:tyOf E.P e=some (sz,agg))
  (hlo:match lo with|none=>i=0|some y=>∃ k,qh N s y = .v (.int k (i:Int))) (hhi:match hi with|none=>j=xs.length|some y=>∃ k,qh N s y = .v (.int k (j:Int))) (h1:i≤j) (h2:j≤xs.length) (hy:(xs.take j).drop i=ys)
  (h:AOps E rd N ops rest K (s.put d (.sl sz ys none))):AOps E rd N ops (⟨d,.slice t x lo hi none,T,p,af,none⟩::rest) K s:=by
 subst hy
 refine qt rfl (qs nofun fun B0 w0 G a w _ hI=>?_)
 have he:=hI.eval_of hx
 generalize hv:a.eval x=v at he
 have hsl:∃ b len cap,v = .slice b len cap:=by cases he <;> exact⟨_,_,_,rfl⟩
 obtain⟨b,len,cap,rfl⟩:=hsl
 obtain⟨hl,hlc,hr⟩:=qnj he h1 h2
 refine⟨_,w,G,_,s.st,?_,.refl G,hI.agree,hr,h⟩
 have hrun:=qnn hu ht b len cap (lo.map a.eval) (hi.map a.eval) i j w (by
  cases lo with
  |none=>exact hlo
  |some y=>obtain⟨k,hy⟩:=hlo;exact⟨k,hI.evalv hy⟩) (by
  cases hi with
  |none=>simp only at hhi;simp only [Option.map_none];omega
  |some y=>obtain⟨k,hy⟩:=hhi;exact⟨⟨k,hI.evalv hy⟩,by omega⟩) h1
 generalize a.eval = ρ at hv hrun
 simp only [execOp,hv]
 simp [Instr.sliceAt,run_underlying hu,hrun]
theorem z0 {x y:Operand} {t e:TypeId} {sz:Nat} {agg:Bool} {xs ys:List AV} {tip:Option Nat} {k:IntKind} {i:Nat} (hx:qh N s x = .sl sz xs tip) (hy:qh N s y = .v (.int k (i:Int))) (hu:E.P.underlying t=some (.slice e)) (ht:tyOf E.P e=some (sz,agg)) (h1:i≤xs.length) (hz:xs.drop i=ys)
  (h:AOps E rd N ops rest K (s.put d (.sl sz ys none))):AOps E rd N ops (⟨d,.slice t x (some y) none none,T,p,af,none⟩::rest) K s:=
 qtr (i:=i) (j:=xs.length) hx hu ht ⟨k,hy⟩ rfl h1 (Nat.le_refl _) (by rw [List.take_length];exact hz) h
end
end Go.Av
namespace Go.Av
open Go Go.RowKit
inductive Vec (sz:Nat) (T:TypeId) (o:Nat) (xs:List AV):AV→AObj→Prop
 |nil (h:xs=[]):Vec sz T o xs jp (.tip 0 sz T)
 |os (ver cap:Nat) (pad:List AV) (hl:(flat xs++pad).length=cap * sz) (hw:∀ x∈xs,x.cells.length=sz) (hle:xs.length≤cap) (hcm:cap≤maxLen):Vec sz T o xs (.os o ver 0 xs.length cap) (.cells ver T (flat xs++pad))
section
variable {B0 : Nat} {w0 : World} {G : Gh} {st : List AObj} {w : World}
theorem q5.setCells (h:q5 B0 w0 G st w) {t k cap v':Nat} {T:TypeId} {cs:List AV} (ht:st[t]? = some .dead) (hraw:(G.ob t).raw=false) (hver:(G.ob t).ver<v')
  {c:Array Value} (hc:w.heap[k]? = some (.cells c T (0,0))) (hp:G.pub k=none) (hl:cs.length=c.size) (hr:∀ (i:Nat) (x:AV) (y:Value),cs[i]? = some x→c[i]? = some y→Rel G x y) (hk:B0≤k) (hs:∀ o x,st[o]? = some x→x.live→(G.ob o).blk≠k) :
  G.le (G.setOb t ⟨v',k,cap,false⟩)∧q5 B0 w0 (G.setOb t ⟨v',k,cap,false⟩) (st.set t (.cells v' T cs)) w:=by
 have hle:=G.le_setOb t ⟨v',k,cap,false⟩ hver hraw
 have hob:∀ o,o≠t→(G.setOb t ⟨v',k,cap,false⟩).ob o=G.ob o:=fun o ho=>by simp [Gh.setOb,ho]
 have hobt:(G.setOb t ⟨v',k,cap,false⟩).ob t=⟨v',k,cap,false⟩:=by simp [Gh.setOb]
 refine⟨hle,h.below,h.hB,by simp [h.n,Gh.setOb],h.pub,fun o x hx=>?_,fun o o' x x' hne hx hx' hl1 hl2=>?_⟩
 ·rcases getElem?_set' _ _ _ _ _ hx with⟨rfl,rfl⟩ | ⟨ho,hx⟩
  ·exact⟨by rw [hobt],by rw [hobt],by rw [hobt];exact hk,by rw [hobt];exact hp,c,by rw [hobt];exact hc,hl,fun i x y h1 h2=>(hr i x y h1 h2).mono hle⟩
  ·exact (h.ob o x hx).mono hle (hob o ho) (fun _=>rfl) (fun _=>rfl)
 ·rcases getElem?_set' _ _ _ _ _ hx with⟨e1,e2⟩ | ⟨ho,hx⟩
  ·rcases getElem?_set' _ _ _ _ _ hx' with⟨e3,_⟩ | ⟨ho',hx'⟩
   ·exact absurd (e1.trans e3.symm) hne
   ·rw [e1,hobt,hob o' ho']
    exact (hs o' x' hx' hl2).symm
  ·rcases getElem?_set' _ _ _ _ _ hx' with⟨e3,_⟩ | ⟨ho',hx'⟩
   ·rw [e3,hobt,hob o ho]
    exact hs o x hx hl1
   ·rw [hob o ho,hob o' ho']
    exact h.sep o o' x x' hne hx hx' hl1 hl2
theorem qao {G:Gh} {cs ds:List AV} {vs us:List Value} (hl:cs.length=vs.length) (h1:∀ (i:Nat) (x:AV) (y:Value),cs[i]? = some x→vs[i]? = some y→Rel G x y) (h2:∀ (i:Nat) (x:AV) (y:Value),ds[i]? = some x→us[i]? = some y→Rel G x y) :
  ∀ (i:Nat) (x:AV) (y:Value),(cs++ds)[i]? = some x→(vs++us)[i]? = some y→Rel G x y:=fun i x y hx hy=>by
 by_cases hi:i<cs.length
 ·rw [List.getElem?_append_left hi] at hx
  rw [List.getElem?_append_left (by omega)] at hy
  exact h1 i x y hx hy
 ·rw [List.getElem?_append_right (by omega)] at hx
  rw [List.getElem?_append_right (by omega),← hl] at hy
  exact h2 _ x y hx hy
theorem qps {P:Program} (hA:q5 B0 w0 G st w) {tt u ty T:TypeId} {du:TypeDesc} (htt:P.underlying tt=some (.slice T)) (hu:P.underlying u=some du) (hd:qfk du)
  {sz bytes:Nat} (hT:y4 P T sz bytes) {o:Nat} {xs ys:List AV} {a:AV} {ob:AObj} {v x:Value} (hV:Vec sz T o xs a ob) (ho:st[o]? = some ob) (hv:Rel G a v)
  {news:List Value} (hx:Src P w x ys.length sz news) (hys:∀ y∈ys,y.cells.length=sz) (hrel:∀ (i:Nat) (a:AV) (b:Value),(flat ys)[i]? = some a→news[i]? = some b→Rel G a b)
  (h63:xs.length+ys.length≤maxLen) (hbytes:(xs.length+ys.length) * bytes≤140737488355328) :
  ∃ v' w' G' a' ob',(Builtin.append_ #[tt,u] ty #[v,x]).run P w = .ok v' w'∧G.le G'∧q5 B0 w0 G' (st.set o ob') w'∧Rel G' a' v'∧Vec sz T o (xs++ys) a' ob':=by
 obtain⟨i,z,hi,hz,rfl,rfl,hzs⟩:=hT.ex
 have hon:=lt_of_getElem? ho
 have htn:o<G.n:=by rw [hA.n];exact hon
 have hraw:(G.ob o).raw=false:=by
  have:=hA.ob o _ ho
  cases hV with
  |nil h=>exact this.1
  |os=>exact this.1
 have hk:=hA.kill o
 have hkt:(st.set o .dead)[o]? = some .dead:=qbb ho
 have hother:∀ k x,(st.set o .dead)[k]? = some x→x.live→k≠o∧st[k]? = some x:=fun k x hx hl=>by
  rcases getElem?_set' _ _ _ _ _ hx with⟨_,e⟩ | ⟨h1,h2⟩
  ·subst e;exact hl.elim
  ·exact⟨h1,h2⟩
 have hself:st.set o ob=st:=by
  apply List.ext_getElem?
  intro k
  by_cases e:o=k
  ·subst e;rw [List.getElem?_set_self hon];exact ho.symm
  ·rw [List.getElem?_set_ne e]
 have hfy:(flat ys).length=ys.length * i.size:=jk hys
 have grow:∀ (base:Option Addr) (c:Nat) (olds:List Value),(Builtin.firstCells i.size xs.length (.slice base xs.length c)).run P w.drew = .ok olds.toArray w.drew→c<xs.length+ys.length→olds.length=xs.length * i.size→(∀ x∈xs,x.cells.length=i.size) →
   (∀ (j:Nat) (a:AV) (b:Value),(flat xs)[j]? = some a→olds[j]? = some b→Rel G a b)→Builtin.nextslicecap (xs.length+ys.length) c * i.bytes≤281474976710656 →
   ∃ v' w' G' a' ob',(Builtin.append_ #[tt,u] ty #[.slice base xs.length c,x]).run P w = .ok v' w'∧G.le G'∧q5 B0 w0 G' (st.set o ob') w'∧Rel G' a' v'∧Vec i.size T o (xs++ys) a' ob':=by
  intro base c olds hold hc hol hwx hrx hfit
  have hfx:(flat xs).length=xs.length * i.size:=jk hwx
  have hrun:=qdz (ty:=ty) htt hu hd hi hz hx base xs.length c olds hold hc (by simp only [maxLen] at h63;omega) hfit
  have hge:=grownCap_ge w (xs.length+ys.length) c T
  have hle:=grownCap_le_maxLen w (xs.length+ys.length) c T h63
  generalize grownCap w (xs.length+ys.length) c T=cap at hrun hge hle
  generalize hzc:(Builtin.zeroCells z.cells (cap - (xs.length+ys.length)))=zc at hrun
  have hzl:zc.size=(cap - (xs.length+ys.length)) * i.size:=by rw [← hzc,size_zeroCells,hzs]
  have hdrew:Below w.heap.size w w.drew:=⟨rfl,rfl,rfl,Nat.le_refl _,fun _ _=>rfl⟩
  have hcl:(flat (xs++ys)++zc.toList.map AV.v).length=(olds.toArray++news.toArray++zc).size:=by
   rw [yf]
   simp [hfx,hfy,hol,hx.count]
   omega
  have hA1:=(hk.fresh hdrew).fresh (w':=w.drew.alloc (.cells (olds.toArray++news.toArray++zc) T)) ⟨rfl,rfl,rfl,by simp [World.alloc],fun b hb=>y7 _ _ _ hb⟩
  have hnp:G.pub w.heap.size=none:=by
   cases hp:G.pub w.heap.size with
   |none=>rfl
   |some vs=>exact absurd (hA.pub_lt hp) (Nat.lt_irrefl _)
  obtain⟨hle2,hA2⟩:=hA1.setCells (t:=o) (k:=w.heap.size) (cap:=0) (v':=(G.ob o).ver+1) (T:=T) (cs:=flat (xs++ys)++zc.toList.map AV.v) hkt hraw (Nat.lt_succ_self _) (yr w.drew _) hnp hcl (by
   have h1:=qao (G:=G) (cs:=flat xs) (ds:=flat ys) (vs:=olds) (us:=news) (by omega) hrx hrel
   have h2:=qao (G:=G) (cs:=flat xs++flat ys) (ds:=zc.toList.map AV.v) (vs:=olds++news) (us:=zc.toList) (by simp [hfx,hfy,hol,hx.count]) h1 (fun j a b h1 h2=>by
    rw [List.getElem?_map,h2] at h1
    simp at h1
    subst h1
    exact .v _)
   rw [yf]
   intro j a b g1 g2
   exact h2 j a b g1 (by rw [← g2];simp [← Array.getElem?_toList])) hA.hB (fun k x hx hl=>by
   obtain⟨_,hx'⟩:=hother k x hx hl
   exact Nat.ne_of_lt ((hA.ob k x hx').lt hl))
  rw [List.set_set] at hA2
  refine⟨_,_,_,_,_,hrun,hle2,hA2,.os o ((G.ob o).ver+1) 0 (xs.length+ys.length) w.heap.size cap (by simpa [Gh.setOb] using htn) (by simp [Gh.setOb]) (fun _=>by simp [Gh.setOb]),?_⟩
  have:=Vec.os (o:=o) (T:=T) (xs:=xs++ys) ((G.ob o).ver+1) cap (zc.toList.map AV.v) (sz:=i.size) (by
   have h1:zc.toList.length=(cap - (xs.length+ys.length)) * i.size:=by rw [← hzl];simp
   rw [List.length_append,yf,List.length_append,hfx,hfy,List.length_map,h1,← Nat.add_mul,← Nat.add_mul]
   congr 1
   omega) (fun y hy=>by
   rcases List.mem_append.1 hy with h|h
   ·exact hwx y h
   ·exact hys y h) (by simpa using hge) hle
  rw [List.length_append] at this
  exact this
 cases hV with
 |nil h=>
  subst h
  cases hv with
  |v _=>
  by_cases hm0:ys.length=0
  ·have hy0:ys=[]:=List.eq_nil_of_length_eq_zero hm0
   subst hy0
   have hn0:news=[]:=List.eq_nil_of_length_eq_zero (by simpa using hx.count)
   subst hn0
   exact⟨_,_,G,_,_,qbg htt hu hd hi hx none 0 0 (Nat.le_refl _),.refl G,by rw [hself];exact hA,.v _,.nil (by simp)⟩
  ·exact grow none 0 [] (by simp [run_firstCells_none]) (by simp;omega) (by simp) (by simp) (by simp [flat]) (by
    simp only [List.length_nil,Nat.zero_add] at hbytes ⊢
    rw [nextslicecap_zero (by omega)]
    omega)
 |os ver cap pad hl hw hle hcm=>
  obtain⟨g0,g1,g2,g3,c,g4,g5,g6⟩:=hA.ob o _ ho
  have hfx:(flat xs).length=xs.length * i.size:=jk hw
  cases hv with
  |os _ _ _ _ b _ hn hv' hb=>
  have hb:=hb g1
  subst hb
  have hcs:c.size=cap * i.size:=by rw [← g5,hl]
  by_cases hm0:ys.length=0
  ·have hy0:ys=[]:=List.eq_nil_of_length_eq_zero hm0
   subst hy0
   have hn0:news=[]:=List.eq_nil_of_length_eq_zero (by simpa using hx.count)
   subst hn0
   exact⟨_,_,G,_,_,qbg htt hu hd hi hx _ xs.length cap hle,.refl G,by rw [hself];exact hA,.os _ _ _ _ _ _ hn hv' (fun _=>rfl),by rw [List.append_nil];exact .os ver cap pad hl hw hle hcm⟩
  ·by_cases hroom:xs.length+ys.length≤cap
   ·have hmul:(xs.length+ys.length) * i.size≤cap * i.size:=Nat.mul_le_mul_right _ hroom
    rw [Nat.add_mul] at hmul
    have hfit:xs.length * i.size+news.length≤c.size:=by rw [hx.count,hcs];omega
    have hrun:=qf4 (ty:=ty) htt hu hd hi hx (G.ob o).blk xs.length cap c g4 hroom hfit
    have hpl:pad.length=cap * i.size - xs.length * i.size:=by
     have:=hl
     rw [List.length_append,hfx] at this
     omega
    have hA2:=hA.setRow (cs':=flat (xs++ys)++pad.drop (ys.length * i.size)) (c':=(c.toList.take (xs.length * i.size)++news++c.toList.drop (xs.length * i.size+news.length)).toArray) ho (by
     rw [yf]
     simp [hfx,hfy,hx.count,hpl,hcs,Nat.min_eq_left hle]
     omega) (by
     have e1:∀ (j:Nat) (a:AV) (b:Value),(flat xs)[j]? = some a→(c.toList.take (xs.length * i.size))[j]? = some b→Rel G a b:=fun j a b h1 h2=>by
      have hj:=lt_of_getElem? h1
      rw [List.getElem?_take_of_lt (by omega)] at h2
      exact g6 j a b (by rw [List.getElem?_append_left hj];exact h1) (by simpa using h2)
     have e2:=qao (G:=G) (cs:=flat xs) (ds:=flat ys) (vs:=c.toList.take (xs.length * i.size)) (us:=news) (by simp;omega) e1 hrel
     have e3:=qao (G:=G) (cs:=flat xs++flat ys) (ds:=pad.drop (ys.length * i.size)) (vs:=c.toList.take (xs.length * i.size)++news) (us:=c.toList.drop (xs.length * i.size+news.length)) (by
      simp [hfx,hfy,hx.count]
      omega) e2 (fun j a b h1 h2=>by
      rw [List.getElem?_drop] at h1 h2
      refine g6 (xs.length * i.size+news.length+j) a b ?_ (by simpa using h2)
      rw [List.getElem?_append_right (by rw [hfx];omega),hfx,← h1,hx.count]
      congr 1
      omega)
     rw [yf]
     intro j a b h1 h2
     exact e3 j a b h1 (by simpa using h2))
    refine⟨_,_,G,_,_,hrun,.refl G,hA2,.os o ver 0 (xs.length+ys.length) _ cap hn hv' (fun _=>rfl),?_⟩
    have:=Vec.os (o:=o) (T:=T) (xs:=xs++ys) ver cap (pad.drop (ys.length * i.size)) (sz:=i.size) (by
     rw [List.length_append,yf,List.length_append,hfx,hfy,List.length_drop,hpl]
     omega) (fun y hy=>by
     rcases List.mem_append.1 hy with h|h
     ·exact hw y h
     ·exact hys y h) (by simpa using hroom) hcm
    rw [List.length_append] at this
    exact this
   ·refine grow (some ⟨(G.ob o).blk,0,none⟩) cap (c.toList.take (xs.length * i.size)) ?_ (by omega) (by
     have:xs.length * i.size≤cap * i.size:=Nat.mul_le_mul_right _ hle
     simp
     omega) hw (fun j a b h1 h2=>?_) (growslice_fits (by omega) hbytes)
    ·refine run_firstCells_some w.drew i.size xs.length ⟨(G.ob o).blk,0,none⟩ xs.length cap _ (by
      have:xs.length * i.size≤cap * i.size:=Nat.mul_le_mul_right _ hle
      simp
      omega) fun j y hy=>?_
     have e1':w.drew.heap[(G.ob o).blk]? = some (.cells c T (0,0)):=g4
     rw [Addr.add_lit]
     rw [List.getElem?_take] at hy
     split at hy
     ·simp only [Array.getElem?_toList] at hy
      simp [World.cell?,e1',hy]
     ·simp at hy
    ·have hj:=lt_of_getElem? h1
     rw [List.getElem?_take_of_lt (by omega)] at h2
     exact g6 j a b (by rw [List.getElem?_append_left hj];exact h1) (by simpa using h2)
end
section
variable {E : Env} {rd : Option Nat} {N : Nat} {ops : Array Oper} {K : AS → Prop} {s : AS} {rest : List Oper} {d : Option Tmp} {T : TypeId} {p : String} {af : Array Edge}
theorem q6o {sz:Nat} {T:TypeId} {o:Nat} {xs:List AV} {a:AV} {ob:AObj} (h:Vec sz T o xs a ob):(xs=[]∧a=jp∧ob = .tip 0 sz T)∨∃ ver cap pad,a = .os o ver 0 xs.length cap∧ob = .cells ver T (flat xs++pad)∧(flat xs++pad).length=cap * sz∧(∀ x∈xs,x.cells.length=sz)∧xs.length≤cap∧cap≤maxLen:=by
 cases h with
 |nil h=>exact .inl ⟨h,rfl,rfl⟩
 |os ver cap pad h1 h2 h3 h4=>exact .inr ⟨ver,cap,pad,rfl,rfl,h1,h2,h3,h4⟩
theorem qrp {sz:Nat}:∀ {xs:List AV} {i:Nat} {x:AV},(∀ x∈xs,x.cells.length=sz)→x.cells.length=sz→i<xs.length→∀ pad,jd (flat xs++pad) (0+i * sz) x.cells=flat (xs.set i x)++pad
 | [],_,_,_,_,h,_=>by simp at h
 |y::xs,0,x,hw,hx,_,pad=>by
  have hy:=hw y (by simp)
  simp only [List.set_cons_zero,qbi,jd,Nat.zero_mul,Nat.zero_add,List.take_zero,List.nil_append,hx]
  rw [List.append_assoc,List.drop_append_of_le_length (by omega),← hy,List.drop_length]
  simp
 |y::xs,i+1,x,hw,hx,h,pad=>by
  have hy:=hw y (by simp)
  have ih:=qrp (xs:=xs) (i:=i) (x:=x) (fun z hz=>hw z (by simp [hz])) hx (by simpa using h) pad
  simp only [List.set_cons_succ,qbi,jd,Nat.zero_add] at ih ⊢
  have e:(i+1) * sz=y.cells.length+i * sz:=by rw [Nat.add_mul,hy];omega
  simp only [List.append_assoc] at ih ⊢
  rw [e,List.take_length_add_append,show y.cells.length+i * sz+x.cells.length=y.cells.length+(i * sz+x.cells.length) by omega,List.drop_length_add_append]
  simp only [List.append_assoc]
  rw [ih]
theorem qvn {sz:Nat} {xs pad:List AV} (hw:∀ x∈xs,x.cells.length=sz) {i:Nat} {x:AV} (hi:xs[i]? = some x):((flat xs++pad).drop (i * sz)).take sz=x.cells:=by
 have hlt:=lt_of_getElem? hi
 have hx:=hw x (List.mem_of_getElem? hi)
 apply List.ext_getElem?
 intro j
 rw [List.getElem?_take]
 by_cases hj:j<sz
 ·rw [if_pos hj,List.getElem?_drop,← qfr hw hi j hj]
  have hle:(i+1) * sz≤xs.length * sz:=Nat.mul_le_mul_right _ hlt
  rw [Nat.succ_mul] at hle
  rw [List.getElem?_append_left (by rw [jk hw];omega)]
 ·rw [if_neg hj,List.getElem?_eq_none (by omega)]
end
structure Chg (N:Nat) (s s':AS):Prop where
 run:∀ (B0:Nat) (w0:World) (G:Gh) (a:Act) (w:World),Inv B0 w0 N G s a w→∃ G',G.le G'∧Inv B0 w0 N G' s' a w
theorem Chg.trans {N:Nat} {s s' s'':AS} (h:Chg N s s') (k:Chg N s' s''):Chg N s s'':=⟨fun B0 w0 G a w hI=>let ⟨G1,h1,h2⟩:=h.run B0 w0 G a w hI;let ⟨G2,k1,k2⟩:=k.run B0 w0 G1 a w h2;⟨G2,h1.trans k1,k2⟩⟩
end Go.Av
namespace Go.Proofs.YtneejjefekdgjaaGreatDoor
open Go Go.Av Go.RowKit Go.Proofs Go.Pl
abbrev Ss (xs:List qd):AV:=.sl 1 (xs.map fun x=>Sv x) none
theorem qte (l m:List UInt8) (st:List AObj):qn E 74 [Sv l,Sv m] st fun r st'=>r=Sv (Lib.trimPrefix l m)∧st'=st:=
 qa9 (vals:= #[.string ⟨l.toArray⟩,.string ⟨m.toArray⟩]) rfl fun _ _ w _ _=>(Tryz.strings_TrimPrefix ⟨l.toArray⟩ ⟨m.toArray⟩ w).mono fun _ _ ⟨h1,h2⟩=>⟨h1,qgr h2⟩
theorem qvm (l:List UInt8) (c:UInt8) (st:List AObj):qn E 74 [Sv l,Sv [c]] st fun r st'=>r=Sv (y3 c l)∧st'=st:=by
 rw [← qoq]
 exact qte _ _ _
theorem qxl {B0:Nat} {w0:World} {G:Gh} {st:List AObj} {w:World} (hA:q5 B0 w0 G st w) {xs:List qd} {tip:Option Nat} {v:Value} (h:Rel G (.sl 1 (xs.map fun x=>Sv x) tip) v) :
  (xs=[]∧∃ a c,v = .slice a 0 c)∨∃ b off cap,v = .slice (some ⟨b,off,none⟩) xs.length cap∧b<w.heap.size∧xs.length≤cap∧∀ (j:Nat) (x:qd),xs[j]? = some x→w.cell? ⟨b,off+j,none⟩=some (.string ⟨x.toArray⟩):=by
 generalize hq:xs.map (fun x=>Sv x)=q at h
 cases h with
 |sl0 sz tip base cap ht=>exact .inl ⟨by simpa using hq,base,cap,rfl⟩
 |sl _ _ _ b off cap pub hp hw hlen hr ht hcap=>
  subst hq
  obtain⟨c,T,fz,hc,hcc⟩:=hA.pub b pub hp
  refine .inr ⟨b,off,cap,by simp,hA.pub_lt hp,by simpa using hcap,fun j x hx=>?_⟩
  have hfl:flat (xs.map fun x=>Sv x)=xs.map fun x=>Sv x:=by
   clear hx hr hlen hw ht hcap
   induction xs with
   |nil=>rfl
   |cons a xs ih=>rw [List.map_cons,qbi,ih];rfl
  have hj:=lt_of_getElem? hx
  rw [hfl] at hlen
  simp only [List.length_map] at hlen
  have hy:pub[off+j]? = some (pub[off+j]'(by omega)):=List.getElem?_eq_getElem (by omega)
  have hrj:=hr j (Sv x) _ (by rw [hfl,List.getElem?_map,hx];rfl) hy
  generalize hz:pub[off+j]'(by omega)=z at hrj hy
  generalize hSx:Sv x=sx at hrj
  cases hrj <;> simp_all
  subst_vars
  simp [World.cell?,hc,hcc _ _ hy]
theorem qy6 (xs:List qd) (tip:Option Nat) (sep:qd) (st:List AObj) (hN:xs.length≤140737488355328) (hl:(Lib.join xs sep).length≤140737488355328):qn E 127 [.sl 1 (xs.map fun x=>Sv x) tip,Sv sep] st fun r st'=>r=Sv (Lib.join xs sep)∧st'=st:=by
 refine⟨fun B0 w0 G vs w hL hA hR=>?_⟩
 have hs:vs.size=2:=by have:=hR.1;simpa using this.symm
 have e0:vs[0]? = some vs[0]:=by simp [hs]
 have e1:vs[1]? = some vs[1]:=by simp [hs]
 have h0:=hR.2 0 _ _ rfl e0
 have h1:=hR.2 1 _ _ rfl e1
 have hv1:vs[1] = .string ⟨sep.toArray⟩:=by generalize vs[1]=y at h1;cases h1;rfl
 have hvs:vs = #[vs[0],.string ⟨sep.toArray⟩]:=by
  apply Array.ext (by simp [hs])
  intro i g1 g2
  match i with
  | 0=>rfl
  | 1=>exact hv1
  |i+2=>simp [hs] at g1;omega
 rw [hvs]
 rcases qxl hA h0 with⟨hx,a,c,hv⟩ | ⟨b,off,cap,hv,hb,hcap,hcell⟩
 ·rw [hv]
  subst hx
  refine (Tryz.strings_Join_none a c ⟨sep.toArray⟩ w).mono ?_
  rintro e w' ⟨rfl,rfl⟩
  exact⟨_,G,Sv [],st,rfl,.refl G,hA,.v _,rfl,rfl⟩
 ·rw [hv]
  have hm:(xs.map fun l:qd=>(⟨l.toArray⟩:ByteArray)).map (·.data.toList)=xs:=by simp [List.map_map,Function.comp_def]
  have hc:=Tryz.strings_Join b off cap (xs.map fun l=>⟨l.toArray⟩) ⟨sep.toArray⟩ w (fun j x hx=>by
   rw [List.getElem?_map] at hx
   cases hq:xs[j]? with
   |none=>rw [hq] at hx;simp at hx
   |some y=>rw [hq] at hx;simp at hx;subst hx;exact hcell j y hq) hb (by simpa using hN) (by simpa using hcap) (by rw [hm];simpa using hl)
  rw [hm] at hc
  simp only [List.length_map] at hc
  refine hc.mono ?_
  rintro e w' ⟨rfl,hbw⟩
  exact⟨_,G,Sv _,st,rfl,.refl G,hA.fresh hbw,.v _,rfl,rfl⟩
def Weak (x r:AV):Prop:=∀ (G:Gh) (v:Value),Rel G x v→Rel G r v
theorem qpr (x:AV):Weak x x:=fun _ _ h=>h
theorem qii (sz:Nat) (xs:List AV) (tip:Option Nat):Weak (.sl sz xs tip) (.sl sz xs none):=fun _ _ h=>qgm h
theorem qxt (sz:Nat):Weak jp (.sl sz [] none):=fun _ _ h=>qa7 h
theorem qth {x y x' y':AV} (h1:Weak x x') (h2:Weak y y'):Weak (.tu [x,y]) (.tu [x',y']):=fun G v h=>by
 cases h with
 |tu _ vs hl hr=>
  refine .tu _ vs hl fun i a b ha hb=>?_
  match i with
  | 0=>simp at ha;subst ha;exact h1 G b (hr 0 x b rfl hb)
  | 1=>simp at ha;subst ha;exact h2 G b (hr 1 y b rfl hb)
  |i+2=>simp at ha
theorem qv3 {fn:Func} {s:AS} {t u:Tmp} {x y x' y':AV} (hr:fn.results = #[.tmp t,.tmp u]) (hx:qh fn.ntmps s (.tmp t)=x) (hy:qh fn.ntmps s (.tmp u)=y) (h1:Weak x x') (h2:Weak y y'):ARes E fn s (.tu [x',y']):=
 qam (qfn hr) (by rw [hx,hy];exact qth h1 h2)
def errN (n:Int):AV:=if n=0 then .v .nilIface else .ifc 62 (Iv n)
theorem qgg (n:Int):Pure (errN n):=by
 unfold errN
 split
 ·exact zm _
 ·exact qd8 (zm _)
theorem qg6 {n:Int} (h:n≠0):errN n = .ifc 62 (Iv n):=if_neg h
theorem qki (f:FldV) (st:List AObj) (hl:f.1.length<4294967281):qn E 273 [fldA f] st fun r st'=>r=errN (wv f)∧st'=st:=by
 refine zz (qgg _) (qx Tryz.func273 rfl (Nat.le_of_ble_eq_true rfl) ?_)
 repeat' (first|apply qv|apply zw|apply qm|apply qk|apply qo|(apply zb;(iterate 3 exact rfl))|(apply ju;exact rfl)|(apply qc;exact rfl;apply cd_n <;> intro h)|(apply qc;exact rfl;apply cd_d <;> intro h)|(apply j5;(iterate 3 exact rfl))|(apply qy;exact rfl;exact rfl)|(apply vc;(iterate 4 exact rfl))|(apply qw;(iterate 3 exact rfl))|(apply zh;(iterate 5 exact rfl))|apply q9|apply zj|(apply qz;exact Tryz.call99;exact qw0 _ _ hl))
 all_goals refine qu rfl (zp rfl) ⟨(?_:_=_),_,rfl⟩
 ·have e:wv f=5:=if_pos (by simp_all)
  rw [e];rfl
 ·have e:wv f=6:=(if_neg (by simp_all)).trans (if_pos (by omega))
  rw [e];rfl
 ·have e:wv f=0:=(if_neg (by simp_all)).trans (if_neg (by omega))
  rw [e];rfl
theorem qft (f:FldV) (st:List AObj) (hl:f.1.length<4294967281) (h:wv f=0):qn E 273 [fldA f] st fun r st'=>r = .v .nilIface∧st'=st:=by
 have:=qki f st hl
 rw [h] at this
 exact this
theorem qfu (f:FldV) (st:List AObj) (hl:f.1.length<4294967281) (h:wv f≠0):qn E 273 [fldA f] st fun r st'=>r = .ifc 62 (Iv (wv f))∧st'=st:=by
 have:=qki f st hl
 rw [qg6 h] at this
 exact this
theorem q0a (s:List UInt8) (st:List AObj) (hl:s.length<4294967281):qn E 294 [Sv s] st fun r st'=>r=Sv (x3 s)∧st'=st:=by
 refine zz (zm _) (qx Tryz.func294 rfl (Nat.le_of_ble_eq_true rfl) ?_)
 have hb:Lib.trimS s [32,9]=[]↔qdb s:=by rw [qpq];simp [yt,qdb]
 repeat' (first|apply qv|apply qm|apply qk|apply qp|apply qo|(apply jn;(iterate 3 exact rfl))|(apply q6;(iterate 4 exact rfl))|(apply wl;exact cAo)|(apply vd;exact cAo)|(apply j9 <;> intro h)|(apply qe;exact rfl;apply yj;exact cAo)|(apply qe;exact rfl;apply yw;exact cAo)|(apply qc;exact rfl;apply cd_t;exact cRa)|(apply qc;exact rfl;apply cd_d <;> intro h)|(apply jf;exact rfl;exact rfl;exact cOs)|apply q9|apply zj|(apply qz;exact Tryz.call209;exact q42 _ _ _ (by omega) rfl rfl)|(apply qz;exact Tryz.call164;exact qfw _ _ _))
 all_goals refine qu rfl (zp rfl) ⟨congrArg (fun l:qd=>Sv l) (?_:_=x3 s),_,rfl⟩
 all_goals unfold x3
 all_goals simp_all
theorem q4k (xs:List qd):Pure (Ss xs):=qjj xs
theorem qxi (l p:qd) (r:List qd) (st:List AObj) (hl:l.length<4294967281) (h:je l=p::r):qn E 285 [Sv l,Sv [10]] st fun x st'=>x = .sl 1 (Sv p::r.map fun x=>Sv x) none∧st'=st:=by
 have:=qpk l st hl
 rw [h] at this
 exact this
def qfx (f:FldV):AV:=.tu [Ss (if wv f=0 then jx f else []),errN (wv f)]
theorem qt9 (f:FldV):Pure (qfx f):=qfi fun x hx=>by
 simp only [List.mem_cons,List.not_mem_nil,or_false] at hx
 rcases hx with rfl|rfl
 ·exact q4k _
 ·exact qgg _
set_option maxHeartbeats 2000000 in
theorem qkj (f:FldV) (st:List AObj) (hl:f.1.length<4294967281) (hv:f.2.length<1000000):qn E 237 [fldA f] st fun r st'=>r=qfx f∧st'=st:=by
 refine zz (qt9 _) (qx Tryz.func237 rfl (Nat.le_of_ble_eq_true rfl) ?_)
 by_cases hc:wv f=0
 ·obtain⟨p,r,hp⟩:∃ p r,je f.2=p::r:=⟨_,_,qnf f.2⟩
  have hpl:p.length≤f.2.length:=qkq f.2 p (by rw [hp];simp)
  have hrl:∀ x∈r,x.length≤f.2.length:=fun x hx=>qkq f.2 x (by rw [hp];simp [hx])
  have hrn:r.length≤f.2.length:=by have:=qcw _ f.2 (Nat.le_refl _);rw [hp] at this;simpa using this
  repeat' (first|(apply qbj;(iterate 6 exact rfl))|(apply qx8;(iterate 5 exact rfl);kernel_rfl)|apply qv|apply zw|apply qm|apply qk|apply qp|apply qo|(apply jn;(iterate 3 exact rfl))|(apply qc;exact rfl;apply cd_f;exact cRa)|(apply qc;exact rfl;apply cd_d <;> intro h)|(apply zl;(iterate 4 exact rfl))|(apply jf;exact rfl;exact rfl;exact cOs)|(apply zy;exact rfl;exact rfl)|(apply vc;(iterate 4 exact rfl))|(apply qw;(iterate 3 exact rfl))|(apply zf;(iterate 3 exact rfl))|(apply zh;(iterate 5 exact rfl))|(apply ze;(iterate 11 exact rfl))|(apply z0;(iterate 4 exact rfl);(first|assumption|omega|exact Nat.succ_le_succ (Nat.zero_le _)|(simp;omega));exact rfl)|apply ye|(apply vk;exact rfl;exact rfl;exact cOs)|(apply kh;(iterate 3 exact rfl))|(apply jz;(iterate 5 exact rfl))|apply xk|apply q9|(apply qz;exact Tryz.call273;exact qft _ _ hl hc)|(apply qz;exact Tryz.call285;exact qxi _ _ _ _ (by omega) hp)|(apply xj (n:=0);(iterate 6 exact rfl))|(apply qq2 (n:=0);(iterate 6 exact rfl))|(apply ql6 (n:=0);(iterate 5 exact rfl);omega))
  all_goals refine qya 6 (o:=st.length+1) (sz:=1) (len:=1) (cap:=1) (xs:=[Sv (wm f.1 p)]) (T':=9) rfl (qag rfl) rfl rfl (by omega) (Nat.le_refl _) (by decide) (by simp [AV.cells]) ?_ ?_
  ·exact congrArg (fun l:qd=>[Sv l]) (by unfold wm;rw [if_neg h]:wm f.1 p=f.1++[58]++([32]++p))
  rotate_left
  ·exact congrArg (fun l:qd=>[Sv l]) (by unfold wm;rw [if_pos (Classical.not_not.1 h),List.append_nil]:wm f.1 p=f.1++[58])
  all_goals
   have hre:qfx f = .tu [Ss (wm f.1 p::r.map fun s=>[32]++x3 s),.v .nilIface]:=by
    unfold qfx jx
    rw [if_pos hc,hc,hp]
    rfl
   rw [hre]
   have hst:∀ s,(x3 s).length≤s.length+1:=qpl
   refine qiv r (fun pre s=>StE [(6,.sl 1 (Sv (wm f.1 p)::pre.map (fun s=>Sv ([32]++x3 s))) (some (st.length+1))),(35,.sl 1 (r.map fun x=>Sv x) none),(36,Iv r.length),(37,Iv pre.length)] st [.cells 0 111 [Sv f.1,Sv f.2],.tip (pre.length+1) 1 9] s) (qok ⟨rfl,rfl,congrArg (fun n:Nat=>Iv (n:Int)) (List.length_map ..),rfl,trivial⟩ (qoh st _ 1 _)) ?_ ?_
   ·rintro _ ⟨t,ext,rfl⟩
    repeat' (first|apply qv|apply qm|apply qk|apply qp|apply qo|(apply zb;(iterate 3 exact rfl))|(apply qc;exact rfl;apply xg;exact cAo)|apply kc|apply zj)
    refine qu rfl (qv3 rfl rfl rfl (qii _ _ _) (qpr _)) ⟨?_,qjx _ _ _ _⟩
    simp only [Ss,List.map_cons,List.map_map]
    rfl
   ·rintro pre a rest _ hr ⟨t,ext,rfl⟩
    have hlen:r.length=pre.length+(rest.length+1):=by rw [hr];simp
    have hget:(r.map fun x=>Sv x)[pre.length]? = some (Sv a):=by rw [hr];simp
    have ha:a.length≤f.2.length:=hrl a (by rw [hr];simp)
    have hsa:=hst a
    repeat' (first|apply qv|apply zw|apply qm|apply qk|apply qp|apply qo|(apply zb;(iterate 3 exact rfl))|(apply qc;exact rfl;apply xi;exact cAo)|(apply jf;exact rfl;exact rfl;exact cOs)|(apply z8;exact rfl;exact rfl;exact ql (by omega) (by omega))|(apply zf;(iterate 3 exact rfl))|(apply zo;(iterate 9 exact rfl))|apply q9|(apply qz;exact Tryz.call294;exact q0a _ _ (by omega))|(apply xj (n:=pre.length);(iterate 5 exact rfl);exact hget)|(apply qga (n:=pre.length+1) (m:=1) (sz:=1) (bytes:=16);(iterate 4 exact rfl);simp;exact rfl;exact rfl;exact⟨⟨_,_,rfl,rfl,rfl,rfl,rfl⟩⟩;exact rfl;exact rfl;(unfold maxLen;omega);omega;exact rfl))
    refine qhe ⟨?_,rfl,rfl,?_,trivial⟩ ?_
    ·exact q2i _ (fun s=>Sv ([32]++x3 s)) pre a _ rfl
    ·exact q3z pre a
    ·rw [qib pre a];rfl
 ·skip
  repeat' (first|apply qv|apply qm|apply qk|apply qp|apply qo|(apply qc;exact rfl;apply cd_t;exact cRa)|(apply zx;exact rfl;exact rfl)|(apply vc;(iterate 4 exact rfl))|(apply zh;(iterate 5 exact rfl))|apply zj|(apply qz;exact Tryz.call273;exact qfu _ _ hl hc))
  refine qu rfl (qam (r':=.tu [Ss [],.ifc 62 (Iv (wv f))]) (qfn rfl) (qth (qxt _) (qpr _))) ⟨?_,_,rfl⟩
  unfold qfx
  rw [if_neg hc,qg6 hc]
theorem qtl {rd:Option Nat} {N:Nat} {ops:Array Oper} {K:AS→Prop} {s:AS} {rest:List Oper} {d:Option Tmp} {T:TypeId} {p:String} {af:Array Edge} {st loc:List AObj} (hst:s.st=st++loc)
  (h:AOps E rd N ops rest K (AS.put ⟨s.t,st++(loc++[bldO 0 (.v (.pointer none)) [] (st.length+(loc.length+1)),.tip 0 1 5]),s.df⟩ d (.bx (st.length+loc.length) 0 0))):AOps E rd N ops (⟨d,.alloc 246,T,p,af,none⟩::rest) K s:=by
 refine z4 hst rfl ?_
 have e:∀ (t:Nat→AV) (st':List AObj) (df:List Nat) (x:AV),(AS.put ⟨t,st',df⟩ d x).st=st':=fun t st' df x=>by cases d <;> rfl
 have e2:∀ (t:Nat→AV) (st' st2:List AObj) (df:List Nat) (x:AV),(⟨(AS.put ⟨t,st',df⟩ d x).t,st2,(AS.put ⟨t,st',df⟩ d x).df⟩:AS)=AS.put ⟨t,st2,df⟩ d x:=fun t st' st2 df x=>by cases d <;> rfl
 refine qq1 (o:=st.length+loc.length) (j:=1) (sz:=1) (T':=5) (T1:=246) (ver:=0) (cs:=[.v (.pointer none),jp]) ?_ rfl ?_
 ·rw [e,← List.append_assoc,List.getElem?_append_right (by simp)]
  simp
  rfl
 ·rw [e,e2]
  have hx:(st++(loc++[AObj.cells 0 246 [.v (.pointer none),jp]])).set (st.length+loc.length) (.cells 0 246 ([AV.v (.pointer none),jp].set 1 (.sl 1 [] (some (st++(loc++[AObj.cells 0 246 [.v (.pointer none),jp]])).length))))++[AObj.tip 0 1 5]
    = st++(loc++[bldO 0 (.v (.pointer none)) [] (st.length+(loc.length+1)),.tip 0 1 5]):=by
   rw [qoh,List.append_assoc,List.set_append_right _ _ (Nat.le_refl _)]
   simp
  have h':=h
  rw [← hx] at h'
  exact h'
theorem qwa (st loc ext new loc':List AObj) (k kt ver:Nat) (q:AV) (l m:List UInt8) (hk:loc[k]? = some (bldO ver q l (st.length+kt))) (hkt:loc[kt]? = some (.tip l.length 1 5)) (hq:q = .v (.pointer none)∨q = .bx (st.length+k) ver 0)
  (hlen:l.length+m.length≤140737488355328) (hl:loc'=(loc.set k (bldO ver (.bx (st.length+k) ver 0) (l++m) (st.length+kt))).set kt (.tip (l++m).length 1 5)) :
  qn E 168 [.bx (st.length+k) ver 0,Sv m] (((st++loc)++ext)++new) fun r st'=>r = .tu [Iv m.length,.v .nilIface]∧st'=((st++loc')++ext)++new:=by
 refine (q01 (st.length+k) ver (st.length+kt) q l m _ (qdj hk) (qdj hkt) hq hlen).mono fun r st' ⟨h1,h2⟩=>⟨h1,?_⟩
 have hk1:=lt_of_getElem? hk
 have hk2:=lt_of_getElem? hkt
 rw [h2,qhd _ hk1,qhd _ (by simpa using hk2),hl,List.length_append]
theorem qtu (st loc ext new loc':List AObj) (k kt ver:Nat) (q:AV) (l:List UInt8) (hk:loc[k]? = some (bldO ver q l (st.length+kt))) (hkt:loc[kt]? = some (.tip l.length 1 5)) (hl:loc'=loc.set kt .dead) :
  qn E 171 [.bx (st.length+k) ver 0] (((st++loc)++ext)++new) fun r st'=>r=Sv l∧st'=((st++loc')++ext)++new:=by
 refine (qyc (st.length+k) ver (st.length+kt) q l _ (qdj hk) (qdj hkt)).mono fun r st' ⟨h1,h2⟩=>⟨h1,?_⟩
 rw [h2,qhd _ (lt_of_getElem? hkt),hl]
theorem qtb:∀ (r:List qd),(z6 (r.map fun s=>[32]++x3 s)).length≤3 * (r.flatMap fun s=>[10]++s).length
 | []=>by simp [z6]
 |a::r=>by
  have ih:=qtb r
  have:=qpl a
  simp only [z6,List.map_cons,List.flatMap_cons,List.length_append,List.length_cons,List.length_nil] at ih ⊢
  omega
theorem qck (a b:List qd):z6 (a++b)=z6 a++z6 b:=by simp [z6]
theorem qjp (s:qd):z6 [s]=s++[10]:=by simp [z6]
theorem qku:∀ (l:List qd),l.length≤(z6 l).length
 | []=>by simp
 |a::r=>by
  have ih:=qku r
  simp only [z6,List.flatMap_cons,List.length_append,List.length_cons,List.length_nil] at ih ⊢
  omega
theorem qyz (a b:List Fld):wx (a++b)=wx a++wx b:=by simp [wx]
theorem qy0 (f:Fld):wx [f]=z6 (jx f):=by simp [wx]
theorem qm0 {f:Fld} (h:vb f):(z6 (jx f)).length≤5000:=by
 obtain⟨hk,hv⟩:=h
 have h1:=qtb (je f.2).tail
 have h2:=congrArg List.length (qh2 _ f.2 (Nat.le_refl _))
 have h3:(wm f.1 ((je f.2).headD [])).length≤32+2+((je f.2).headD []).length:=by
  have:=hk.2.1
  unfold wm
  split <;> simp <;> omega
 have e:jx f=[wm f.1 ((je f.2).headD [])]++(je f.2).tail.map fun s=>[32]++x3 s:=rfl
 rw [e,qck,qjp]
 simp only [List.length_append,List.length_cons,List.length_nil] at h2 ⊢
 omega
theorem qo6:∀ (xs:List Fld),(∀ f∈xs,vb f)→(wx xs).length≤5000 * xs.length
 | [],_=>by simp [wx]
 |f::r,h=>by
  have ih:=qo6 r fun x hx=>h x (by simp [hx])
  have h1:=qm0 (h f (by simp))
  have e:wx (f::r)=z6 (jx f)++wx r:=by simp [wx]
  rw [e,List.length_append,List.length_cons]
  omega
def errF:List Fld→Int
 | []=>0
 |f::r=>if wv f≠0 then wv f else errF r
theorem qi0:∀ (xs:List Fld),errF xs=0↔∀ f∈xs,vb f
 | []=>by simp [errF]
 |f::r=>by
  have ih:=qi0 r
  unfold errF
  by_cases h:wv f≠0
  ·rw [if_pos h]
   have hg:¬ vb f:=fun hg=>h ((qbz f).2 hg)
   simp [h,hg]
  ·have hg:=(qbz f).1 (Classical.not_not.1 h)
   rw [if_neg h,ih]
   simp [hg]
theorem qu1:∀ {pre:List Fld} {f:Fld} {r:List Fld},(∀ x∈pre,vb x)→wv f≠0→errF (pre++f::r)=wv f
 | [],f,r,_,h=>by simp [errF,h]
 |x::pre,f,r,hp,h=>by
  have:=(qbz x).2 (hp x (by simp))
  simp only [List.cons_append,errF,this]
  rw [if_neg (by simp)]
  exact qu1 (fun y hy=>hp y (by simp [hy])) h
theorem qrr (f:FldV) (st:List AObj) (hl:f.1.length<4294967281) (hv:f.2.length<1000000) (h:wv f=0):qn E 237 [fldA f] st fun r st'=>r = .tu [Ss (jx f),.v .nilIface]∧st'=st:=by
 have:=qkj f st hl hv
 unfold qfx at this
 rw [if_pos h,h] at this
 exact this
theorem qrs (f:FldV) (st:List AObj) (hl:f.1.length<4294967281) (hv:f.2.length<1000000) (h:wv f≠0):qn E 237 [fldA f] st fun r st'=>r = .tu [Ss [],.ifc 62 (Iv (wv f))]∧st'=st:=by
 have:=qkj f st hl hv
 unfold qfx at this
 rw [if_neg h,qg6 h] at this
 exact this
def qmr (xs:List Fld):AV:=.tu [Sv (if errF xs=0 then wx xs else []),errN (errF xs)]
theorem qws (xs:List Fld):Pure (qmr xs):=qfi fun x hx=>by
 simp only [List.mem_cons,List.not_mem_nil,or_false] at hx
 rcases hx with rfl|rfl
 ·exact zm _
 ·exact qgg _
structure q2u (xs:List FldV):Prop where
 len:xs.length<1000000
 val:∀ f∈xs,f.1.length<4294967281∧f.2.length<1000000
set_option maxHeartbeats 2000000 in
theorem q5r (xs:List FldV) (st:List AObj) (hx:q2u xs):qn E 167 [vq xs] st fun r st'=>r=qmr xs∧st'=st:=by
 refine zz (qws _) (qx Tryz.func167 rfl (Nat.le_of_ble_eq_true rfl) ?_)
 have hxl:=hx.len
 repeat' (first|(apply qtl;exact rfl)|apply qv|apply zw|apply qm|apply qk|apply qp|apply qo|(apply zl;(iterate 4 exact rfl)))
 refine qiv xs (fun pre s=>(∀ f∈pre,vb f)∧∃ q,(q = .v (.pointer none)∨q = .bx (st.length+0) 0 0)∧StE [(4,.bx (st.length+0) 0 0),(11,vq xs),(12,Iv xs.length),(13,Iv pre.length)] st [bldO 0 q (wx pre) (st.length+1),.tip (wx pre).length 1 5] s) ⟨by simp,_,.inl rfl,qok ⟨rfl,rfl,congrArg (fun n:Nat=>Iv (n:Int)) (List.length_map ..),rfl,trivial⟩ rfl⟩ ?_ ?_
 ·rintro _ ⟨hg,q,hq,t,ext,rfl⟩
  repeat' (first|apply qv|apply qm|apply qk|apply qo|(apply zb;(iterate 3 exact rfl))|(apply qc;exact rfl;apply xg;exact cAo)|apply kc|apply zj|(refine qz Tryz.call171 (qtu st _ _ _ _ 0 1 0 _ _ rfl rfl rfl) ?_))
  refine qu rfl (qfn rfl) ⟨?_,qjx _ _ _ _⟩
  unfold qmr
  have h0:=(qi0 xs).2 hg
  rw [if_pos h0,h0]
  rfl
 ·rintro pre f rest _ hr ⟨hg,q,hq,t,ext,rfl⟩
  have hlen:xs.length=pre.length+(rest.length+1):=by rw [hr];simp
  have hget:(xs.map fldA)[pre.length]? = some (fldA f):=by rw [hr];simp
  obtain⟨hf1,hf2⟩:=hx.val f (by rw [hr];simp)
  by_cases hc:wv f=0
  ·have hgf:=(qbz f).1 hc
   have hb1:=qo6 pre hg
   have hb2:=qm0 hgf
   repeat' (first|apply qv|apply zw|apply qm|apply qk|apply qp|apply qo|(apply zn;exact rfl;exact rfl)|(apply zb;(iterate 3 exact rfl))|(apply qc;exact rfl;apply xi;exact cAo)|(apply qc;exact rfl;apply cd_f;exact cRa)|(apply zl;(iterate 4 exact rfl))|(apply zy;exact rfl;exact rfl)|(apply z4;exact rfl;exact rfl)|(apply zf;(iterate 3 exact rfl))|(apply zh;(iterate 5 exact rfl))|(apply ze;(iterate 11 exact rfl))|apply q9|(apply qz;exact Tryz.call237;exact qrr _ _ hf1 hf2 hc)|(apply xj (n:=pre.length);(iterate 5 exact rfl);exact hget))
   refine qiv (jx f) (fun lp s=>∃ q,(q = .v (.pointer none)∨q = .bx (st.length+0) 0 0)∧StE [(4,.bx (st.length+0) 0 0),(11,vq xs),(12,Iv xs.length),(13,Iv pre.length),(25,Ss (jx f)),(26,Iv (jx f).length),(27,Iv lp.length)] st [bldO 0 q (wx pre++z6 lp) (st.length+1),.tip (wx pre++z6 lp).length 1 5] s) ⟨_,hq,qhe ⟨rfl,rfl,rfl,rfl,rfl,congrArg (fun n:Nat=>Iv (n:Int)) (List.length_map ..),rfl,trivial⟩ (by simp [z6])⟩ ?_ ?_
   ·rintro _ ⟨q,hq,t,ext,rfl⟩
    repeat' (first|apply qv|apply qm|apply qk|apply qp|(apply zb;(iterate 3 exact rfl))|(apply qc;exact rfl;apply xg;exact cAo)|(apply z8;exact rfl;exact rfl;exact ql (by omega) (by omega))|apply kc)
    refine⟨fun x hx=>?_,q,hq,qhe ⟨rfl,rfl,rfl,?_,trivial⟩ ?_⟩
    ·rcases List.mem_append.1 hx with hx|hx
     ·exact hg x hx
     ·simp at hx;subst hx;exact hgf
    ·rw [qib pre f];rfl
    ·rw [qyz,qy0]
   ·rintro lp a lr _ hlr ⟨q,hq,t,ext,rfl⟩
    have hlen2:(jx f).length=lp.length+(lr.length+1):=by rw [hlr];simp
    have hget2:((jx f).map fun x=>Sv x)[lp.length]? = some (Sv a):=by rw [hlr];simp
    have hb3:(z6 lp).length+(a.length+1)≤5000:=by
     rw [hlr,qck] at hb2
     have:a::lr=[a]++lr:=rfl
     rw [this,qck,qjp] at hb2
     simp only [List.length_append,List.length_cons,List.length_nil] at hb2
     omega
    have hct:=qku lp
    repeat' (first|apply qv|apply zw|apply qm|apply qk|apply qp|apply qo|(apply zb;(iterate 3 exact rfl))|(apply qc;exact rfl;apply xi;exact cAo)|(apply jf;exact rfl;exact rfl;exact cOs)|(apply zf;(iterate 3 exact rfl))|apply q9|(apply xj (n:=lp.length);(iterate 5 exact rfl);exact hget2))
    refine qz Tryz.call168 (qwa st _ _ _ _ 0 1 0 _ _ _ rfl rfl ?_ ?_ rfl) ?_;(exact hq);(simp only [List.length_append,List.length_cons,List.length_nil];omega)
    repeat' (first|apply qm|apply qk|apply qp|(apply z8;exact rfl;exact rfl;exact ql (by omega) (by omega)))
    refine⟨_,.inr rfl,qhe ⟨rfl,rfl,rfl,rfl,rfl,rfl,?_,trivial⟩ ?_⟩
    ·rw [qib lp a];rfl
    ·have e:wx pre++z6 (lp++[a])=(wx pre++z6 lp)++(a++[10]):=by rw [qck,qjp,List.append_assoc]
     rw [e];rfl
  ·skip
   repeat' (first|apply qv|apply zw|apply qm|apply qk|apply qp|apply qo|(apply zn;exact rfl;exact rfl)|(apply zb;(iterate 3 exact rfl))|(apply qc;exact rfl;apply xi;exact cAo)|(apply qc;exact rfl;apply cd_t;exact cRa)|(apply zx;exact rfl;exact rfl)|(apply z4;exact rfl;exact rfl)|(apply zf;(iterate 3 exact rfl))|(apply zh;(iterate 5 exact rfl))|(apply ze;(iterate 11 exact rfl))|apply q9|apply zj|(apply qz;exact Tryz.call237;exact qrs _ _ hf1 hf2 hc)|(apply xj (n:=pre.length);(iterate 5 exact rfl);exact hget))
   refine qu rfl (qfn rfl) ⟨?_,qjx _ _ _ _⟩
   unfold qmr
   have h0:errF xs=wv f:=by rw [hr];exact qu1 hg hc
   rw [h0,if_neg hc,qg6 hc]
   rfl
end Go.Proofs.YtneejjefekdgjaaGreatDoor
namespace Go.Av
open Go Go.RowKit
@[reducible] def qnb (K : Act → World → Prop) : Exit → Act → World → Prop
 | .normal,a,w=>K a w
 | _,_,_=>False
structure AZ (E:Env) (N:Nat) (ops:Array Oper) (fuel:Nat) (listed:Array Bool) (K:AS→Prop) (s:AS):Prop where
 run:∀ (B0:Nat) (w0:World) (G:Gh) (a:Act) (w:World),E.L B0 w0→Inv B0 w0 N G s a w→∀ K':Act→World→Prop,(∀ G' s' a' w',G.le G'→Inv B0 w0 N G' s' a' w'→K s'→K' a' w')→wpAnyIn (fw none) 0 E.P .any ops (qnb K') fuel listed a w
structure AY (E:Env) (N:Nat) (o:Oper) (s:AS) (r:AV):Prop where
 run:∀ (B0:Nat) (w0:World) (G:Gh) (a:Act) (w:World),Inv B0 w0 N G s a w→∃ v,(∀ w',(execOp a.eval o).run E.P w' = .ok (.value v) w')∧(∀ w',o.about E.P w' a.eval=none)∧Rel G r v
section
variable {E : Env} {N : Nat} {ops : Array Oper} {K : AS → Prop} {s : AS} {fuel : Nat} {listed : Array Bool}
theorem qgc {id:Nat} {Q:Exit→AS→Prop} {n:Nat} (hm:E.P.follows .mixedOrders=true) (hn:ops.size=n) (h:AZ E N ops n (Array.replicate n false) (Q .normal) s):AWp E none N (.region id ops true) Q s:=by
 subst hn
 refine⟨fun B0 w0 G a w hL hI=>?_⟩
 have hBl:Below w.heap.size w { w with drawn:=w.drawn+1 }:=⟨rfl,rfl,rfl,Nat.le_refl _,fun _ _=>rfl⟩
 have hI2:Inv B0 w0 N G s a { w with drawn:=w.drawn+1 }:=⟨hI.agree.fresh hBl,hI.defers,hI.size,hI.tmps⟩
 have:=h.run B0 w0 G a _ hL hI2 (fun a' w'=>∃ (G':Gh) (s':AS),G.le G'∧Inv B0 w0 N G' s' a' w'∧Q .normal s') fun G' s' a' w' hG hI' hk=>⟨G',s',hG,hI',hk⟩
 refine wpIn_mono (wpIn_region_any hm this) fun e a' w' hq=>?_
 cases e with
 |normal=>exact hq
 | _=>exact hq.elim
theorem qbx (hr:Region.ready .any ops listed=[]) (h:K s):AZ E N ops fuel listed K s:=
 ⟨fun B0 w0 G a w hL hI K' hK=>wpAnyIn_done hr (hK G s a w (.refl G) hI h) fuel⟩
theorem yx (i:Nat) {oi:Oper} {r:AV} (hi:ops[i]? = some oi) (hs:Region.noSelect ops=true) (hf:Region.free .any ops listed i=true) (hr:(Region.ready .any ops listed).contains i=true) (hg:oi.guard=none) (hy:AY E N oi s r)
  (h:AZ E N ops fuel (listed.setIfInBounds i true) K (s.put oi.dst r)):AZ E N ops (fuel+1) listed K s:=by
 refine⟨fun B0 w0 G a w hL hI K' hK=>?_⟩
 obtain⟨v,h1,h2,h3⟩:=hy.run B0 w0 G a w hI
 have hwn:Region.wanted oi (yielded ops a.tmps)=true:=by simp [Region.wanted,hg]
 refine wpAnyIn_take (v:=v) rfl hi hs hf hr (fun c a w hq=>hq.elim) ⟨.inl ⟨hwn,h1⟩,h2⟩ (h.run B0 w0 G _ w hL (hI.put (.refl G) hI.agree oi.dst h3) K' fun G' s' a' w' hG hI' hk=>hK G' s' a' w' hG hI' hk)
theorem que {F:Fence} {n:Nat} {P:Program} {o:Oper} {a:Act} {w:World} {next X Y:Act→World→Prop} (h:o.wpIn F n P a w next (qnb X)):o.wpIn F n P a w next (qnb Y):=by
 unfold Oper.wpIn at *
 refine⟨h.1,?_⟩
 have h:=h.2
 generalize (o.semAt F.round a.eval).run P w=r at *
 cases r with
 |ok x w'=>
  cases x <;> simp only [Oper.uponIn] at h ⊢
  case value u=>exact h
  case skip=>exact h
  case defer d=>exact h
  case enter f args=>
   refine⟨h.1,CallsIn.mono h.2 fun e w'' he=>?_⟩
   cases e with
   |returned u=>exact he
   |panicked c=>exact he.elim
   |outgrown=>exact absurd he (by simp [LetsOut])
  case row row args=>exact h
  case round l f tmps assign body=>
   refine⟨h.1,RoundIn.mono h.2 fun e w'' he=>?_⟩
   cases e with
   |returned u=>exact he
   |panicked c=>exact he.elim
   |outgrown=>exact absurd he (by simp [LetsOut])
 |halt x w'=>
  cases x <;> simp only [Oper.uponIn] at h ⊢
  case panic u=>exact h.elim
def qqa (P:Nat→Prop):List Nat→Prop
 | []=>True
 |i::r=>P i∧qqa P r
theorem qos {P:Nat→Prop}:∀ {l:List Nat},qqa P l→∀ i∈l,P i
 | [],_,_,h=>by simp at h
 |j::l,h,i,hi=>by
  rcases List.mem_cons.1 hi with rfl|hi
  ·exact h.1
  ·exact qos h.2 i hi
theorem xn (rs:List Nat) (hr:Region.ready .any ops listed=rs) (hne:Nat.blt 0 rs.length=true)
  (h:qqa (fun i=>∃ o,ops[i]? = some o∧AOps E none N ops [o] (AZ E N ops fuel (listed.setIfInBounds i true) K) s) rs):AZ E N ops (fuel+1) listed K s:=by
 refine⟨fun B0 w0 G a w hL hI K' hK=>wpAnyIn_all hr (fun e=>by subst e;simp at hne) fun i hi=>?_⟩
 obtain⟨o,ho,h⟩:=qos h i hi
 have hrun:=h.run B0 w0 G a w hL hI (qnb fun a' w'=>wpAnyIn (fw none) 0 E.P .any ops (qnb K') fuel (listed.setIfInBounds i true) a' w') fun G' s' a' w' hG hI' hk=>hk.run B0 w0 G' a' w' hL hI' K' fun G2 s2 a2 w2 hG2 hI2 hk2=>hK G2 s2 a2 w2 (hG.trans hG2) hI2 hk2
 unfold wpOpIn
 rw [ho]
 simp only [wpListIn] at hrun ⊢
 split
 ·rename_i hw
  rw [if_pos hw] at hrun
  exact que hrun
 ·rename_i hw
  rw [if_neg hw] at hrun
  exact hrun
variable {d : Option Tmp} {T : TypeId} {p : String} {af : Array Edge}
theorem q2v {op:Op} {r:AV} (hnc:∀ c,op≠.call c) (h:∀ (G:Gh) (ρ : Operand→Value),(∀ x,Rel G (qh N s x) (ρ x))→∃ v,(∀ w',(execOp ρ ⟨d,op,T,p,af,none⟩).run E.P w' = .ok (.value v) w')∧Rel G r v):AY E N ⟨d,op,T,p,af,none⟩ s r:=
 ⟨fun B0 w0 G a w hI=>let ⟨v,h1,h2⟩:=h G a.eval hI.eval;⟨v,h1,fun w'=>by unfold Oper.about;cases op <;> first|rfl|exact absurd rfl (hnc _),h2⟩⟩
theorem qad {x:Operand}:AY E N ⟨d,.move x,T,p,af,none⟩ s (qh N s x):=q2v nofun fun G ρ hρ=>⟨ρ x,fun w'=>by simp [execOp],hρ x⟩
theorem qow {x:Operand}:AY E N ⟨d,.assign x,T,p,af,none⟩ s (qh N s x):=q2v nofun fun G ρ hρ=>⟨ρ x,fun w'=>by simp [execOp],hρ x⟩
end
theorem qn0 {E:Env} {rd:Option Nat} {N:Nat} {c:Code} {Q:Exit→AS→Prop} {s:AS} (I:AS→Prop) (h:AWp E rd N c (only I) s) (hk:∀ s',I s'→Q .normal s'):AWp E rd N c Q s:=h.mono fun e s' h=>by
 cases e <;> first|exact hk _ h|exact h.elim
end Go.Av
