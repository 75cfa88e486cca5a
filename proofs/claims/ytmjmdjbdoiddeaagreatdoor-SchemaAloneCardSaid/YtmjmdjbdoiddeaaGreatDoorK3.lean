/- Contracts and plain facts that the closing text leans on (part 3). No condition of their own beyond those that each states. -/
import Derived.Test.YtmjmdjbdoiddeaaGreatDoorK2
import Derived.Deep.Slices
import Derived.Deep.Fields
import Derived.WideKeyArgs
import Derived.Lib.ItoaLen
set_option maxRecDepth 100000
set_option linter.unusedVariables false
set_option linter.unusedSimpArgs false
namespace Go.Proofs.YtmjmdjbdoiddeaaGreatDoor
open Go Go.Av Go.RowKit Go.Proofs Go.Pl
theorem qpr {xs:List FldV} {k:Nat} (hk:k<xs.length):(xs.map fldA)[k]? = some (fldA (xs.getD k ([],[]))):=by
 simp [List.getD,hk]
def vf (key:qd) (xs:List FldV):List qd:=(xs.filter fun f=>f.1=key).map Prod.snd
theorem qdv {key:qd} {xs:List FldV} {k:Nat} (hk:k<xs.length):vf key (xs.take (k+1))=vf key (xs.take k)++if (xs.getD k ([],[])).1=key then [(xs.getD k ([],[])).2] else []:=by
 unfold vf
 rw [List.take_succ_eq_append_getElem hk,List.filter_append,List.map_append]
 congr 1
 have e:xs.getD k ([],[])=xs[k]:=by simp [List.getD,hk]
 rw [e]
 by_cases h:xs[k].1=key <;> simp [h]
theorem qhl (key:qd) (xs:List FldV):(vf key xs).length≤xs.length:=by
 unfold vf
 rw [List.length_map]
 exact List.length_filter_le _ _
theorem qfr (key:qd) (xs:List FldV) (k:Nat):(vf key (xs.take k)).length≤xs.length:=by
 have h1:=qhl key (xs.take k)
 have h2:(xs.take k).length≤xs.length:=by simp;omega
 omega
set_option maxHeartbeats 1000000 in
theorem qrk (key:qd) (xs:List FldV) (st:List AObj) (hx:xs.length<1000000000):qp E 24 [Sv key,y6 xs] st fun r st'=>r = .sl 1 ((vf key xs).map fun x=>Sv x) none∧st'=st:=by
 refine zl (qih _) (qw Tryz.func24 rfl (Nat.le_of_ble_eq_true rfl) ?_)
 have hlen:(xs.map fldA).length=xs.length:=by simp
 repeat' (first|(apply vo;first|apply q4|apply za|apply qn|(apply qc;exact rfl;apply wo;exact cAo)|(apply qc;exact rfl;apply wv;exact cAo)|(apply qc;exact rfl;apply xm;exact cRa)|(apply qc;exact rfl;apply xl;exact cRa)|(apply qc;exact rfl;apply cd_n <;> intro h)|(apply qc;exact rfl;apply cd_t;exact cRa)|(apply qc;exact rfl;apply cd_f;exact cRa)|(apply qc;exact rfl;apply cd_d <;> intro h)|(apply qc;exact rfl;apply cd_s <;> intro h)|(apply vk;exact rfl;kernel_rfl)|apply zb|apply jg|apply ze)|(apply j5;first|(apply qr;(iterate 4 exact rfl))|(apply q8;(iterate 4 exact rfl)))|(apply wd;first|(apply kl;exact cAo)|(apply jo;exact cAo)|(apply jh;exact cAo)|(apply kj;exact cAo)|(apply ki;exact cRa)|(apply kw;exact cRa)|(apply j8;exact cRa)|(apply jr;exact cRa)|(apply js <;> intro h)|(apply vc;exact cRa)|(apply vq;exact cRa)|(apply ke;exact cRa)|(apply ju;exact cRa)|(apply z3 <;> intro h)|(apply vd <;> intro h))|(apply wc;first|apply wx|(apply v8;(iterate 4 exact rfl))|(apply w9;exact rfl;exact rfl;exact qj (by omega) (by omega))|(apply wb;(iterate 4 exact rfl);exact cAs;exact cAs)|(apply jm;(iterate 5 exact rfl))|(apply kp;exact rfl;exact rfl;exact cOs)|(apply j3;(iterate 3 exact rfl))|(apply jl;(iterate 5 exact rfl))|(apply zh;(iterate 4 exact rfl))|(apply zg;(iterate 3 exact rfl))|(apply w8;(iterate 3 exact rfl);exact cAs)|(apply wa;exact rfl;exact rfl)|(apply vm;exact rfl;exact rfl)|(apply vn;(iterate 3 exact rfl);omega)|(apply ko;(iterate 3 exact rfl))|apply v5|apply kh|(apply ww;exact rfl;exact rfl;exact qj (by omega) (by omega))|(apply v9;(iterate 3 exact rfl))|(apply v6;(iterate 3 exact rfl);exact cAs)|(apply vz;(iterate 3 exact rfl);exact cAs)|(apply jz;exact rfl;exact rfl))|(apply j4;first|(apply qz;(iterate 3 exact rfl))|(apply z4;(iterate 3 exact rfl))|(apply z7;exact rfl;exact rfl;exact cOs)|(apply z6;exact rfl;exact rfl;exact qj (by omega) (by omega))|(apply j9;exact rfl;exact rfl;exact qj (by omega) (by omega))|(apply zx;exact rfl;exact rfl)|(apply zz;exact rfl;exact rfl)|(apply zw;exact rfl;exact rfl)|(apply zy;exact rfl;exact rfl)|(apply zo;(iterate 3 exact rfl))|(apply z0;(iterate 3 exact rfl))|(apply jy;exact rfl;exact rfl;(first|exact qf _|exact rfl);first|exact qf _|exact rfl)|(apply jv;exact rfl;exact rfl;(first|exact qf _|exact rfl);first|exact qf _|exact rfl)|(apply kn;exact rfl;exact rfl;(first|exact qf _|exact rfl);first|exact qf _|exact rfl)|(apply jw;(iterate 3 exact rfl))|(apply jx;(iterate 3 exact rfl)))|(apply kr;first|(apply zu;(iterate 3 exact rfl))|(apply z2;(iterate 5 exact rfl))|(apply zj;(iterate 5 exact rfl)))|(apply ku;first|(apply jq;exact rfl)|(apply jf;exact rfl)|(apply ja;exact rfl))|(apply j6;first|(apply kc;(iterate 3 exact rfl);exact cAs)|(apply ka;(iterate 3 exact rfl);exact cAs)|(apply jt;(iterate 4 exact rfl);exact cAs;exact cAs)|(apply zq;(iterate 4 exact rfl);(first|assumption|omega|exact Nat.succ_le_succ (Nat.zero_le _)|(simp;omega));exact rfl))|(apply kq;first|(apply zm;(iterate 3 exact rfl))|(apply je;(iterate 4 exact rfl)))|(apply zt;first|(apply qt;(iterate 3 exact rfl))|(apply qy;(iterate 4 exact rfl)))|(apply j7;first|(apply zr;(iterate 11 exact rfl))|(apply zc;(iterate 11 exact rfl)))|(apply vp;first|apply qs|apply qu|apply qo|(apply zi;exact rfl;exact rfl)|(apply qe;exact rfl;apply we;exact cAo)|(apply qe;exact rfl;apply wi;exact cAo)|(apply qe;exact rfl;apply xy;exact cRa)|(apply qe;exact rfl;apply xx;exact cRa)|(apply qe;exact rfl;apply pk_t;exact cRa)|(apply qe;exact rfl;apply pk_f;exact cRa)|(apply qv;exact rfl;exact rfl)|apply zn|(apply jc;exact rfl;exact rfl)|(apply kz;(iterate 4 exact rfl))|(apply jn;(iterate 3 exact rfl))|(apply jd;(iterate 3 exact rfl);exact cAs)|(apply z9;(iterate 3 exact rfl))|(apply q9;(iterate 9 exact rfl))|(apply zk;exact rfl;exact rfl)|(apply jk;(iterate 4 exact rfl);(first|assumption|omega|decide);exact rfl)|(apply zf;(iterate 4 exact rfl);first|assumption|omega|decide)))
 refine qk2 (i:=5) (sz:=1) (T':=9) rfl ?_
 refine xk (fun (k:Nat) s=>k≤xs.length∧StE [(0,Sv key),(5,.sl 1 ((vf key (xs.take k)).map fun x=>Sv x) (some (st.length+0))),(8,y6 xs),(9,Iv xs.length),(10,Iv k)] st [.tip (vf key (xs.take k)).length 1 9] s) (fun k=>xs.length - k) 0 ⟨by omega,qtn ⟨rfl,by simp [vf];rfl,rfl,by simp;rfl,rfl,trivial⟩ (by show (st++[])++[AObj.tip 0 1 _]=_;simp [vf])⟩ ?_
 rintro k _ ⟨hk,t,ext,rfl⟩
 have hvl:=qfr key xs k
 repeat' (first|(apply vo;first|apply q4|apply za|apply qn|(apply qc;exact rfl;apply wo;exact cAo)|(apply qc;exact rfl;apply wv;exact cAo)|(apply qc;exact rfl;apply xm;exact cRa)|(apply qc;exact rfl;apply xl;exact cRa)|(apply qc;exact rfl;apply cd_n <;> intro h)|(apply qc;exact rfl;apply cd_t;exact cRa)|(apply qc;exact rfl;apply cd_f;exact cRa)|(apply qc;exact rfl;apply cd_d <;> intro h)|(apply qc;exact rfl;apply cd_s <;> intro h)|(apply vk;exact rfl;kernel_rfl)|apply zb|apply jg|apply ze)|(apply j5;first|(apply qr;(iterate 4 exact rfl))|(apply q8;(iterate 4 exact rfl)))|(apply wd;first|(apply kl;exact cAo)|(apply jo;exact cAo)|(apply jh;exact cAo)|(apply kj;exact cAo)|(apply ki;exact cRa)|(apply kw;exact cRa)|(apply j8;exact cRa)|(apply jr;exact cRa)|(apply js <;> intro h)|(apply vc;exact cRa)|(apply vq;exact cRa)|(apply ke;exact cRa)|(apply ju;exact cRa)|(apply z3 <;> intro h)|(apply vd <;> intro h))|(apply wc;first|apply wx|(apply v8;(iterate 4 exact rfl))|(apply w9;exact rfl;exact rfl;exact qj (by omega) (by omega))|(apply wb;(iterate 4 exact rfl);exact cAs;exact cAs)|(apply jm;(iterate 5 exact rfl))|(apply kp;exact rfl;exact rfl;exact cOs)|(apply j3;(iterate 3 exact rfl))|(apply jl;(iterate 5 exact rfl))|(apply zh;(iterate 4 exact rfl))|(apply zg;(iterate 3 exact rfl))|(apply w8;(iterate 3 exact rfl);exact cAs)|(apply wa;exact rfl;exact rfl)|(apply vm;exact rfl;exact rfl)|(apply vn;(iterate 3 exact rfl);omega)|(apply ko;(iterate 3 exact rfl))|apply v5|apply kh|(apply ww;exact rfl;exact rfl;exact qj (by omega) (by omega))|(apply v9;(iterate 3 exact rfl))|(apply v6;(iterate 3 exact rfl);exact cAs)|(apply vz;(iterate 3 exact rfl);exact cAs)|(apply jz;exact rfl;exact rfl))|(apply j4;first|(apply qz;(iterate 3 exact rfl))|(apply z4;(iterate 3 exact rfl))|(apply z7;exact rfl;exact rfl;exact cOs)|(apply z6;exact rfl;exact rfl;exact qj (by omega) (by omega))|(apply j9;exact rfl;exact rfl;exact qj (by omega) (by omega))|(apply zx;exact rfl;exact rfl)|(apply zz;exact rfl;exact rfl)|(apply zw;exact rfl;exact rfl)|(apply zy;exact rfl;exact rfl)|(apply zo;(iterate 3 exact rfl))|(apply z0;(iterate 3 exact rfl))|(apply jy;exact rfl;exact rfl;(first|exact qf _|exact rfl);first|exact qf _|exact rfl)|(apply jv;exact rfl;exact rfl;(first|exact qf _|exact rfl);first|exact qf _|exact rfl)|(apply kn;exact rfl;exact rfl;(first|exact qf _|exact rfl);first|exact qf _|exact rfl)|(apply jw;(iterate 3 exact rfl))|(apply jx;(iterate 3 exact rfl)))|(apply kr;first|(apply zu;(iterate 3 exact rfl))|(apply z2;(iterate 5 exact rfl))|(apply zj;(iterate 5 exact rfl)))|(apply ku;first|(apply jq;exact rfl)|(apply jf;exact rfl)|(apply ja;exact rfl))|(apply j6;first|(apply kc;(iterate 3 exact rfl);exact cAs)|(apply ka;(iterate 3 exact rfl);exact cAs)|(apply jt;(iterate 4 exact rfl);exact cAs;exact cAs)|(apply zq;(iterate 4 exact rfl);(first|assumption|omega|exact Nat.succ_le_succ (Nat.zero_le _)|(simp;omega));exact rfl))|(apply kq;first|(apply zm;(iterate 3 exact rfl))|(apply je;(iterate 4 exact rfl)))|(apply zt;first|(apply qt;(iterate 3 exact rfl))|(apply qy;(iterate 4 exact rfl)))|(apply j7;first|(apply zr;(iterate 11 exact rfl))|(apply zc;(iterate 11 exact rfl)))|(apply vp;first|apply qs|apply qu|apply qo|(apply zi;exact rfl;exact rfl)|(apply qe;exact rfl;apply we;exact cAo)|(apply qe;exact rfl;apply wi;exact cAo)|(apply qe;exact rfl;apply xy;exact cRa)|(apply qe;exact rfl;apply xx;exact cRa)|(apply qe;exact rfl;apply pk_t;exact cRa)|(apply qe;exact rfl;apply pk_f;exact cRa)|(apply qv;exact rfl;exact rfl)|apply zn|(apply jc;exact rfl;exact rfl)|(apply kz;(iterate 4 exact rfl))|(apply jn;(iterate 3 exact rfl))|(apply jd;(iterate 3 exact rfl);exact cAs)|(apply z9;(iterate 3 exact rfl))|(apply q9;(iterate 9 exact rfl))|(apply zk;exact rfl;exact rfl)|(apply jk;(iterate 4 exact rfl);(first|assumption|omega|decide);exact rfl)|(apply zf;(iterate 4 exact rfl);first|assumption|omega|decide))|(apply qal (n:=k);(iterate 5 exact rfl);exact qpr (by omega))|(apply qc1 (n:=(vf key (xs.take k)).length) (m:=1) (sz:=1) (bytes:=16);(iterate 4 exact rfl);simp;exact rfl;exact rfl;exact⟨⟨_,_,rfl,rfl,rfl,rfl,rfl⟩⟩;exact rfl;exact rfl;(unfold maxLen;omega);omega;exact rfl))
 ·refine⟨k+1,⟨by omega,ql7 ⟨rfl,?_,rfl,rfl,rfl,trivial⟩ ?_⟩,by omega⟩
  ·rw [qdv (by omega),if_pos (by assumption),List.map_append]
   rfl
  ·rw [qdv (by omega),if_pos (by assumption),List.length_append]
   rfl
 ·have e:vf key (xs.take (k+1))=vf key (xs.take k):=by rw [qdv (by omega),if_neg (by assumption),List.append_nil]
  refine⟨k+1,⟨by omega,ql7 ⟨rfl,?_,rfl,rfl,rfl,trivial⟩ ?_⟩,by omega⟩
  ·rw [e]
   rfl
  ·rw [e]
 ·have e:k=xs.length:=by omega
  subst e
  refine qm rfl (qgm (sz:=1) rfl rfl) ⟨?_,qmi _ _ _ _⟩
  rw [List.take_length]
def qgv (xs:List FldV) (p:FldV→Bool):Int:=match xs.findIdx? p with|some k=>k|none=> -1
theorem qyz {xs:List FldV} {p:FldV→Bool} {k:Nat} (hk:k<xs.length) (h1:∀ x∈xs.take k,p x=false) (h2:p (xs.getD k ([],[]))=true):qgv xs p=k:=by
 unfold qgv
 have:xs.findIdx? p=some k:=by
  rw [List.findIdx?_eq_some_iff_getElem]
  refine⟨hk,by simpa [List.getD,hk] using h2,fun j hj=>?_⟩
  have:=h1 xs[j] (by rw [List.mem_take_iff_getElem];exact⟨j,by omega,rfl⟩)
  simpa using this
 rw [this]
theorem quj {xs:List FldV} {p:FldV→Bool} (h:∀ x∈xs,p x=false):qgv xs p = -1:=by
 unfold qgv
 have:xs.findIdx? p=none:=by
  rw [List.findIdx?_eq_none_iff]
  exact h
 rw [this]
theorem qwq (xs:List FldV) (p:FldV→Bool):0≤qgv xs p↔xs.any p=true:=by
 unfold qgv
 cases h:xs.findIdx? p with
 |none=>
  rw [List.findIdx?_eq_none_iff] at h
  rw [List.any_eq_true]
  constructor
  ·intro h';simp at h'
  ·rintro⟨x,hx,h'⟩;rw [h x hx] at h';simp at h'
 |some k=>
  rw [List.findIdx?_eq_some_iff_getElem] at h
  obtain⟨hk,h1,_⟩:=h
  rw [List.any_eq_true]
  exact⟨fun _=>⟨xs[k],List.getElem_mem hk,h1⟩,fun _=>by simp⟩
theorem qvl {xs:List FldV} {p:FldV→Bool} {k:Nat} (hk:k<xs.length) (h1:∀ x∈xs.take k,p x=false) (h2:p (xs.getD k ([],[]))=false):∀ x∈xs.take (k+1),p x=false:=by
 intro x hx
 rw [List.take_succ_eq_append_getElem hk,List.mem_append,List.mem_singleton] at hx
 rcases hx with hx|rfl
 ·exact h1 x hx
 ·simpa [List.getD,hk] using h2
theorem q0z {xs:List FldV} {k:Nat} (hk:k<xs.length):xs.getD k ([],[])∈xs:=by
 have e:xs.getD k ([],[])=xs[k]:=by simp [List.getD,hk]
 rw [e]
 exact List.getElem_mem hk
theorem qus (xs:List FldV) (p:FldV→Bool) (F:FuncId) (cs:List AV) (st:List AObj) (hx:xs.length<9223372036854775807) (hF:∀ vs w,(callFunc F vs).run E.P w = .ok (.enter F vs) w)
  (hp:∀ x∈xs,qp E F (fldA x::cs) (st++[]) fun r st'=>r=Bv (p x)∧st'=st++[]):qp E 42 [y6 xs,.fn (.func F) [] cs] st fun r st'=>r=Iv (qgv xs p)∧st'=st:=by
 refine zl (q7 _) (qw Tryz.func42 rfl (Nat.le_of_ble_eq_true rfl) ?_)
 have hlen:(xs.map fldA).length=xs.length:=by simp
 repeat' (first|(apply vo;first|apply q4|apply za|apply qn|(apply qc;exact rfl;apply wo;exact cAo)|(apply qc;exact rfl;apply wv;exact cAo)|(apply qc;exact rfl;apply xm;exact cRa)|(apply qc;exact rfl;apply xl;exact cRa)|(apply qc;exact rfl;apply cd_n <;> intro h)|(apply qc;exact rfl;apply cd_t;exact cRa)|(apply qc;exact rfl;apply cd_f;exact cRa)|(apply qc;exact rfl;apply cd_d <;> intro h)|(apply qc;exact rfl;apply cd_s <;> intro h)|(apply vk;exact rfl;kernel_rfl)|apply zb|apply jg|apply ze)|(apply j5;first|(apply qr;(iterate 4 exact rfl))|(apply q8;(iterate 4 exact rfl)))|(apply wd;first|(apply kl;exact cAo)|(apply jo;exact cAo)|(apply jh;exact cAo)|(apply kj;exact cAo)|(apply ki;exact cRa)|(apply kw;exact cRa)|(apply j8;exact cRa)|(apply jr;exact cRa)|(apply js <;> intro h)|(apply vc;exact cRa)|(apply vq;exact cRa)|(apply ke;exact cRa)|(apply ju;exact cRa)|(apply z3 <;> intro h)|(apply vd <;> intro h))|(apply wc;first|apply wx|(apply v8;(iterate 4 exact rfl))|(apply w9;exact rfl;exact rfl;exact qj (by omega) (by omega))|(apply wb;(iterate 4 exact rfl);exact cAs;exact cAs)|(apply jm;(iterate 5 exact rfl))|(apply kp;exact rfl;exact rfl;exact cOs)|(apply j3;(iterate 3 exact rfl))|(apply jl;(iterate 5 exact rfl))|(apply zh;(iterate 4 exact rfl))|(apply zg;(iterate 3 exact rfl))|(apply w8;(iterate 3 exact rfl);exact cAs)|(apply wa;exact rfl;exact rfl)|(apply vm;exact rfl;exact rfl)|(apply vn;(iterate 3 exact rfl);omega)|(apply ko;(iterate 3 exact rfl))|apply v5|apply kh|(apply ww;exact rfl;exact rfl;exact qj (by omega) (by omega))|(apply v9;(iterate 3 exact rfl))|(apply v6;(iterate 3 exact rfl);exact cAs)|(apply vz;(iterate 3 exact rfl);exact cAs)|(apply jz;exact rfl;exact rfl))|(apply j4;first|(apply qz;(iterate 3 exact rfl))|(apply z4;(iterate 3 exact rfl))|(apply z7;exact rfl;exact rfl;exact cOs)|(apply z6;exact rfl;exact rfl;exact qj (by omega) (by omega))|(apply j9;exact rfl;exact rfl;exact qj (by omega) (by omega))|(apply zx;exact rfl;exact rfl)|(apply zz;exact rfl;exact rfl)|(apply zw;exact rfl;exact rfl)|(apply zy;exact rfl;exact rfl)|(apply zo;(iterate 3 exact rfl))|(apply z0;(iterate 3 exact rfl))|(apply jy;exact rfl;exact rfl;(first|exact qf _|exact rfl);first|exact qf _|exact rfl)|(apply jv;exact rfl;exact rfl;(first|exact qf _|exact rfl);first|exact qf _|exact rfl)|(apply kn;exact rfl;exact rfl;(first|exact qf _|exact rfl);first|exact qf _|exact rfl)|(apply jw;(iterate 3 exact rfl))|(apply jx;(iterate 3 exact rfl)))|(apply kr;first|(apply zu;(iterate 3 exact rfl))|(apply z2;(iterate 5 exact rfl))|(apply zj;(iterate 5 exact rfl)))|(apply ku;first|(apply jq;exact rfl)|(apply jf;exact rfl)|(apply ja;exact rfl))|(apply j6;first|(apply kc;(iterate 3 exact rfl);exact cAs)|(apply ka;(iterate 3 exact rfl);exact cAs)|(apply jt;(iterate 4 exact rfl);exact cAs;exact cAs)|(apply zq;(iterate 4 exact rfl);(first|assumption|omega|exact Nat.succ_le_succ (Nat.zero_le _)|(simp;omega));exact rfl))|(apply kq;first|(apply zm;(iterate 3 exact rfl))|(apply je;(iterate 4 exact rfl)))|(apply zt;first|(apply qt;(iterate 3 exact rfl))|(apply qy;(iterate 4 exact rfl)))|(apply j7;first|(apply zr;(iterate 11 exact rfl))|(apply zc;(iterate 11 exact rfl)))|(apply vp;first|apply qs|apply qu|apply qo|(apply zi;exact rfl;exact rfl)|(apply qe;exact rfl;apply we;exact cAo)|(apply qe;exact rfl;apply wi;exact cAo)|(apply qe;exact rfl;apply xy;exact cRa)|(apply qe;exact rfl;apply xx;exact cRa)|(apply qe;exact rfl;apply pk_t;exact cRa)|(apply qe;exact rfl;apply pk_f;exact cRa)|(apply qv;exact rfl;exact rfl)|apply zn|(apply jc;exact rfl;exact rfl)|(apply kz;(iterate 4 exact rfl))|(apply jn;(iterate 3 exact rfl))|(apply jd;(iterate 3 exact rfl);exact cAs)|(apply z9;(iterate 3 exact rfl))|(apply q9;(iterate 9 exact rfl))|(apply zk;exact rfl;exact rfl)|(apply jk;(iterate 4 exact rfl);(first|assumption|omega|decide);exact rfl)|(apply zf;(iterate 4 exact rfl);first|assumption|omega|decide)))
 refine xk (fun (k:Nat) s=>k≤xs.length∧(∀ x∈xs.take k,p x=false)∧StA [(0,y6 xs),(1,.fn (.func F) [] cs),(7,Iv xs.length),(8,Iv k)] (st++[]) [] s) (fun k=>xs.length - k) 0 ⟨by omega,by simp,wr ⟨rfl,rfl,by simp;rfl,rfl,trivial⟩⟩ ?_
 rintro k _ ⟨hk,h1,t,rfl⟩
 repeat' (first|(apply vo;first|apply q4|apply za|apply qn|(apply qc;exact rfl;apply wo;exact cAo)|(apply qc;exact rfl;apply wv;exact cAo)|(apply qc;exact rfl;apply xm;exact cRa)|(apply qc;exact rfl;apply xl;exact cRa)|(apply qc;exact rfl;apply cd_n <;> intro h)|(apply qc;exact rfl;apply cd_t;exact cRa)|(apply qc;exact rfl;apply cd_f;exact cRa)|(apply qc;exact rfl;apply cd_d <;> intro h)|(apply qc;exact rfl;apply cd_s <;> intro h)|(apply vk;exact rfl;kernel_rfl)|apply zb|apply jg|apply ze)|(apply j5;first|(apply qr;(iterate 4 exact rfl))|(apply q8;(iterate 4 exact rfl)))|(apply wd;first|(apply kl;exact cAo)|(apply jo;exact cAo)|(apply jh;exact cAo)|(apply kj;exact cAo)|(apply ki;exact cRa)|(apply kw;exact cRa)|(apply j8;exact cRa)|(apply jr;exact cRa)|(apply js <;> intro h)|(apply vc;exact cRa)|(apply vq;exact cRa)|(apply ke;exact cRa)|(apply ju;exact cRa)|(apply z3 <;> intro h)|(apply vd <;> intro h))|(apply wc;first|apply wx|(apply v8;(iterate 4 exact rfl))|(apply w9;exact rfl;exact rfl;exact qj (by omega) (by omega))|(apply wb;(iterate 4 exact rfl);exact cAs;exact cAs)|(apply jm;(iterate 5 exact rfl))|(apply kp;exact rfl;exact rfl;exact cOs)|(apply j3;(iterate 3 exact rfl))|(apply jl;(iterate 5 exact rfl))|(apply zh;(iterate 4 exact rfl))|(apply zg;(iterate 3 exact rfl))|(apply w8;(iterate 3 exact rfl);exact cAs)|(apply wa;exact rfl;exact rfl)|(apply vm;exact rfl;exact rfl)|(apply vn;(iterate 3 exact rfl);omega)|(apply ko;(iterate 3 exact rfl))|apply v5|apply kh|(apply ww;exact rfl;exact rfl;exact qj (by omega) (by omega))|(apply v9;(iterate 3 exact rfl))|(apply v6;(iterate 3 exact rfl);exact cAs)|(apply vz;(iterate 3 exact rfl);exact cAs)|(apply jz;exact rfl;exact rfl))|(apply j4;first|(apply qz;(iterate 3 exact rfl))|(apply z4;(iterate 3 exact rfl))|(apply z7;exact rfl;exact rfl;exact cOs)|(apply z6;exact rfl;exact rfl;exact qj (by omega) (by omega))|(apply j9;exact rfl;exact rfl;exact qj (by omega) (by omega))|(apply zx;exact rfl;exact rfl)|(apply zz;exact rfl;exact rfl)|(apply zw;exact rfl;exact rfl)|(apply zy;exact rfl;exact rfl)|(apply zo;(iterate 3 exact rfl))|(apply z0;(iterate 3 exact rfl))|(apply jy;exact rfl;exact rfl;(first|exact qf _|exact rfl);first|exact qf _|exact rfl)|(apply jv;exact rfl;exact rfl;(first|exact qf _|exact rfl);first|exact qf _|exact rfl)|(apply kn;exact rfl;exact rfl;(first|exact qf _|exact rfl);first|exact qf _|exact rfl)|(apply jw;(iterate 3 exact rfl))|(apply jx;(iterate 3 exact rfl)))|(apply kr;first|(apply zu;(iterate 3 exact rfl))|(apply z2;(iterate 5 exact rfl))|(apply zj;(iterate 5 exact rfl)))|(apply ku;first|(apply jq;exact rfl)|(apply jf;exact rfl)|(apply ja;exact rfl))|(apply j6;first|(apply kc;(iterate 3 exact rfl);exact cAs)|(apply ka;(iterate 3 exact rfl);exact cAs)|(apply jt;(iterate 4 exact rfl);exact cAs;exact cAs)|(apply zq;(iterate 4 exact rfl);(first|assumption|omega|exact Nat.succ_le_succ (Nat.zero_le _)|(simp;omega));exact rfl))|(apply kq;first|(apply zm;(iterate 3 exact rfl))|(apply je;(iterate 4 exact rfl)))|(apply zt;first|(apply qt;(iterate 3 exact rfl))|(apply qy;(iterate 4 exact rfl)))|(apply j7;first|(apply zr;(iterate 11 exact rfl))|(apply zc;(iterate 11 exact rfl)))|(apply vp;first|apply qs|apply qu|apply qo|(apply zi;exact rfl;exact rfl)|(apply qe;exact rfl;apply we;exact cAo)|(apply qe;exact rfl;apply wi;exact cAo)|(apply qe;exact rfl;apply xy;exact cRa)|(apply qe;exact rfl;apply xx;exact cRa)|(apply qe;exact rfl;apply pk_t;exact cRa)|(apply qe;exact rfl;apply pk_f;exact cRa)|(apply qv;exact rfl;exact rfl)|apply zn|(apply jc;exact rfl;exact rfl)|(apply kz;(iterate 4 exact rfl))|(apply jn;(iterate 3 exact rfl))|(apply jd;(iterate 3 exact rfl);exact cAs)|(apply z9;(iterate 3 exact rfl))|(apply q9;(iterate 9 exact rfl))|(apply zk;exact rfl;exact rfl)|(apply jk;(iterate 4 exact rfl);(first|assumption|omega|decide);exact rfl)|(apply zf;(iterate 4 exact rfl);first|assumption|omega|decide))|(apply qal (n:=k);(iterate 5 exact rfl);exact qpr (by omega))|(refine qky rfl hF (qp.mono (hp (xs.getD k ([],[])) (q0z (by omega))) ?_);rintro _ _ ⟨rfl,rfl⟩))
 ·exact qm rfl (zv rfl) ⟨congrArg Iv (qyz (by omega) h1 (by assumption)).symm,_,rfl⟩
 ·exact⟨k+1,⟨by omega,qvl (by omega) h1 (by assumption),wr ⟨rfl,rfl,rfl,rfl,trivial⟩⟩,by omega⟩
 ·have e:k=xs.length:=by omega
  subst e
  rw [List.take_length] at h1
  exact qm rfl (zv rfl) ⟨congrArg Iv (quj h1).symm,_,rfl⟩
theorem qn4 (xs:List FldV) (p:FldV→Bool) (F:FuncId) (cs:List AV) (st:List AObj) (hx:xs.length<9223372036854775807) (hF:∀ vs w,(callFunc F vs).run E.P w = .ok (.enter F vs) w)
  (hp:∀ x∈xs,qp E F (fldA x::cs) ((st++[])++[]) fun r st'=>r=Bv (p x)∧st'=(st++[])++[]):qp E 25 [y6 xs,.fn (.func F) [] cs] st fun r st'=>r=Bv (xs.any p)∧st'=st:=by
 refine zl (q7 _) (qw Tryz.func25 rfl (Nat.le_of_ble_eq_true rfl) ?_)
 repeat' (first|(apply vo;first|apply q4|apply za|apply qn|(apply qc;exact rfl;apply wo;exact cAo)|(apply qc;exact rfl;apply wv;exact cAo)|(apply qc;exact rfl;apply xm;exact cRa)|(apply qc;exact rfl;apply xl;exact cRa)|(apply qc;exact rfl;apply cd_n <;> intro h)|(apply qc;exact rfl;apply cd_t;exact cRa)|(apply qc;exact rfl;apply cd_f;exact cRa)|(apply qc;exact rfl;apply cd_d <;> intro h)|(apply qc;exact rfl;apply cd_s <;> intro h)|(apply vk;exact rfl;kernel_rfl)|apply zb|apply jg|apply ze)|(apply j5;first|(apply qr;(iterate 4 exact rfl))|(apply q8;(iterate 4 exact rfl)))|(apply wd;first|(apply kl;exact cAo)|(apply jo;exact cAo)|(apply jh;exact cAo)|(apply kj;exact cAo)|(apply ki;exact cRa)|(apply kw;exact cRa)|(apply j8;exact cRa)|(apply jr;exact cRa)|(apply js <;> intro h)|(apply vc;exact cRa)|(apply vq;exact cRa)|(apply ke;exact cRa)|(apply ju;exact cRa)|(apply z3 <;> intro h)|(apply vd <;> intro h))|(apply wc;first|apply wx|(apply v8;(iterate 4 exact rfl))|(apply w9;exact rfl;exact rfl;exact qj (by omega) (by omega))|(apply wb;(iterate 4 exact rfl);exact cAs;exact cAs)|(apply jm;(iterate 5 exact rfl))|(apply kp;exact rfl;exact rfl;exact cOs)|(apply j3;(iterate 3 exact rfl))|(apply jl;(iterate 5 exact rfl))|(apply zh;(iterate 4 exact rfl))|(apply zg;(iterate 3 exact rfl))|(apply w8;(iterate 3 exact rfl);exact cAs)|(apply wa;exact rfl;exact rfl)|(apply vm;exact rfl;exact rfl)|(apply vn;(iterate 3 exact rfl);omega)|(apply ko;(iterate 3 exact rfl))|apply v5|apply kh|(apply ww;exact rfl;exact rfl;exact qj (by omega) (by omega))|(apply v9;(iterate 3 exact rfl))|(apply v6;(iterate 3 exact rfl);exact cAs)|(apply vz;(iterate 3 exact rfl);exact cAs)|(apply jz;exact rfl;exact rfl))|(apply j4;first|(apply qz;(iterate 3 exact rfl))|(apply z4;(iterate 3 exact rfl))|(apply z7;exact rfl;exact rfl;exact cOs)|(apply z6;exact rfl;exact rfl;exact qj (by omega) (by omega))|(apply j9;exact rfl;exact rfl;exact qj (by omega) (by omega))|(apply zx;exact rfl;exact rfl)|(apply zz;exact rfl;exact rfl)|(apply zw;exact rfl;exact rfl)|(apply zy;exact rfl;exact rfl)|(apply zo;(iterate 3 exact rfl))|(apply z0;(iterate 3 exact rfl))|(apply jy;exact rfl;exact rfl;(first|exact qf _|exact rfl);first|exact qf _|exact rfl)|(apply jv;exact rfl;exact rfl;(first|exact qf _|exact rfl);first|exact qf _|exact rfl)|(apply kn;exact rfl;exact rfl;(first|exact qf _|exact rfl);first|exact qf _|exact rfl)|(apply jw;(iterate 3 exact rfl))|(apply jx;(iterate 3 exact rfl)))|(apply kr;first|(apply zu;(iterate 3 exact rfl))|(apply z2;(iterate 5 exact rfl))|(apply zj;(iterate 5 exact rfl)))|(apply ku;first|(apply jq;exact rfl)|(apply jf;exact rfl)|(apply ja;exact rfl))|(apply j6;first|(apply kc;(iterate 3 exact rfl);exact cAs)|(apply ka;(iterate 3 exact rfl);exact cAs)|(apply jt;(iterate 4 exact rfl);exact cAs;exact cAs)|(apply zq;(iterate 4 exact rfl);(first|assumption|omega|exact Nat.succ_le_succ (Nat.zero_le _)|(simp;omega));exact rfl))|(apply kq;first|(apply zm;(iterate 3 exact rfl))|(apply je;(iterate 4 exact rfl)))|(apply zt;first|(apply qt;(iterate 3 exact rfl))|(apply qy;(iterate 4 exact rfl)))|(apply j7;first|(apply zr;(iterate 11 exact rfl))|(apply zc;(iterate 11 exact rfl)))|(apply vp;first|apply qs|apply qu|apply qo|(apply zi;exact rfl;exact rfl)|(apply qe;exact rfl;apply we;exact cAo)|(apply qe;exact rfl;apply wi;exact cAo)|(apply qe;exact rfl;apply xy;exact cRa)|(apply qe;exact rfl;apply xx;exact cRa)|(apply qe;exact rfl;apply pk_t;exact cRa)|(apply qe;exact rfl;apply pk_f;exact cRa)|(apply qv;exact rfl;exact rfl)|apply zn|(apply jc;exact rfl;exact rfl)|(apply kz;(iterate 4 exact rfl))|(apply jn;(iterate 3 exact rfl))|(apply jd;(iterate 3 exact rfl);exact cAs)|(apply z9;(iterate 3 exact rfl))|(apply q9;(iterate 9 exact rfl))|(apply zk;exact rfl;exact rfl)|(apply jk;(iterate 4 exact rfl);(first|assumption|omega|decide);exact rfl)|(apply zf;(iterate 4 exact rfl);first|assumption|omega|decide))|(apply qx;exact Tryz.call42;exact qus xs p F cs _ hx hF hp))
 refine qm rfl (zv rfl) ⟨congrArg Bv (?_:_=_),_,rfl⟩
 have:=qwq xs p
 cases h:xs.any p <;> simp_all
theorem qmj {st l:List AObj} {o:Nat} {x:AObj} (h:st[o]? = some x):(st++l)[o]? = some x:=by
 rw [List.getElem?_append_left (lt_of_getElem? h)]
 exact h
theorem q2e (r:zp) (f:FldV) (st:List AObj) (o:Nat) (ho:st[o]? = some (.cells 0 43 (qhc r))) (h1:r.text.length<4294967281) (h2:f.2.length<4294967281):qp E 26 [fldA f,.bx o 0 0] st fun x st'=>x=Bv (!decide (xf r f))∧st'=st:=by
 refine zl (q7 _) (qw Tryz.func26 rfl (Nat.le_of_ble_eq_true rfl) ?_)
 repeat' (first|(apply vo;first|apply q4|apply za|apply qn|(apply qc;exact rfl;apply wo;exact cAo)|(apply qc;exact rfl;apply wv;exact cAo)|(apply qc;exact rfl;apply xm;exact cRa)|(apply qc;exact rfl;apply xl;exact cRa)|(apply qc;exact rfl;apply cd_n <;> intro h)|(apply qc;exact rfl;apply cd_t;exact cRa)|(apply qc;exact rfl;apply cd_f;exact cRa)|(apply qc;exact rfl;apply cd_d <;> intro h)|(apply qc;exact rfl;apply cd_s <;> intro h)|(apply vk;exact rfl;kernel_rfl)|apply zb|apply jg|apply ze)|(apply j5;first|(apply qr;(iterate 4 exact rfl))|(apply q8;(iterate 4 exact rfl)))|(apply wd;first|(apply kl;exact cAo)|(apply jo;exact cAo)|(apply jh;exact cAo)|(apply kj;exact cAo)|(apply ki;exact cRa)|(apply kw;exact cRa)|(apply j8;exact cRa)|(apply jr;exact cRa)|(apply js <;> intro h)|(apply vc;exact cRa)|(apply vq;exact cRa)|(apply ke;exact cRa)|(apply ju;exact cRa)|(apply z3 <;> intro h)|(apply vd <;> intro h))|(apply wc;first|apply wx|(apply v8;(iterate 4 exact rfl))|(apply w9;exact rfl;exact rfl;exact qj (by omega) (by omega))|(apply wb;(iterate 4 exact rfl);exact cAs;exact cAs)|(apply jm;(iterate 5 exact rfl))|(apply kp;exact rfl;exact rfl;exact cOs)|(apply j3;(iterate 3 exact rfl))|(apply jl;(iterate 5 exact rfl))|(apply zh;(iterate 4 exact rfl))|(apply zg;(iterate 3 exact rfl))|(apply w8;(iterate 3 exact rfl);exact cAs)|(apply wa;exact rfl;exact rfl)|(apply vm;exact rfl;exact rfl)|(apply vn;(iterate 3 exact rfl);omega)|(apply ko;(iterate 3 exact rfl))|apply v5|apply kh|(apply ww;exact rfl;exact rfl;exact qj (by omega) (by omega))|(apply v9;(iterate 3 exact rfl))|(apply v6;(iterate 3 exact rfl);exact cAs)|(apply vz;(iterate 3 exact rfl);exact cAs)|(apply jz;exact rfl;exact rfl))|(apply j4;first|(apply qz;(iterate 3 exact rfl))|(apply z4;(iterate 3 exact rfl))|(apply z7;exact rfl;exact rfl;exact cOs)|(apply z6;exact rfl;exact rfl;exact qj (by omega) (by omega))|(apply j9;exact rfl;exact rfl;exact qj (by omega) (by omega))|(apply zx;exact rfl;exact rfl)|(apply zz;exact rfl;exact rfl)|(apply zw;exact rfl;exact rfl)|(apply zy;exact rfl;exact rfl)|(apply zo;(iterate 3 exact rfl))|(apply z0;(iterate 3 exact rfl))|(apply jy;exact rfl;exact rfl;(first|exact qf _|exact rfl);first|exact qf _|exact rfl)|(apply jv;exact rfl;exact rfl;(first|exact qf _|exact rfl);first|exact qf _|exact rfl)|(apply kn;exact rfl;exact rfl;(first|exact qf _|exact rfl);first|exact qf _|exact rfl)|(apply jw;(iterate 3 exact rfl))|(apply jx;(iterate 3 exact rfl)))|(apply kr;first|(apply zu;(iterate 3 exact rfl))|(apply z2;(iterate 5 exact rfl))|(apply zj;(iterate 5 exact rfl)))|(apply ku;first|(apply jq;exact rfl)|(apply jf;exact rfl)|(apply ja;exact rfl))|(apply j6;first|(apply kc;(iterate 3 exact rfl);exact cAs)|(apply ka;(iterate 3 exact rfl);exact cAs)|(apply jt;(iterate 4 exact rfl);exact cAs;exact cAs)|(apply zq;(iterate 4 exact rfl);(first|assumption|omega|exact Nat.succ_le_succ (Nat.zero_le _)|(simp;omega));exact rfl))|(apply kq;first|(apply zm;(iterate 3 exact rfl))|(apply je;(iterate 4 exact rfl)))|(apply zt;first|(apply qt;(iterate 3 exact rfl))|(apply qy;(iterate 4 exact rfl)))|(apply j7;first|(apply zr;(iterate 11 exact rfl))|(apply zc;(iterate 11 exact rfl)))|(apply vp;first|apply qs|apply qu|apply qo|(apply zi;exact rfl;exact rfl)|(apply qe;exact rfl;apply we;exact cAo)|(apply qe;exact rfl;apply wi;exact cAo)|(apply qe;exact rfl;apply xy;exact cRa)|(apply qe;exact rfl;apply xx;exact cRa)|(apply qe;exact rfl;apply pk_t;exact cRa)|(apply qe;exact rfl;apply pk_f;exact cRa)|(apply qv;exact rfl;exact rfl)|apply zn|(apply jc;exact rfl;exact rfl)|(apply kz;(iterate 4 exact rfl))|(apply jn;(iterate 3 exact rfl))|(apply jd;(iterate 3 exact rfl);exact cAs)|(apply z9;(iterate 3 exact rfl))|(apply q9;(iterate 9 exact rfl))|(apply zk;exact rfl;exact rfl)|(apply jk;(iterate 4 exact rfl);(first|assumption|omega|decide);exact rfl)|(apply zf;(iterate 4 exact rfl);first|assumption|omega|decide))|(apply yl;exact rfl;exact qmj ho;exact rfl;exact rfl)|(apply qx;exact Tryz.call27;exact q10 r f _ h1 h2))
 exact qm rfl (zv rfl) ⟨rfl,_,rfl⟩
def wl (r:zp) (xs:List FldV):Prop:=ya r∧((r.kind=1∧(vf r.key xs).length=0)∨(r.kind=2∧1<(vf r.key xs).length)∨(r.kind≠1∧r.kind≠2∧xs.any (fun f=> !decide (xf r f))=true))
instance (r:zp) (xs:List FldV):Decidable (wl r xs):=inferInstanceAs (Decidable (_∧(_∨_∨_)))
structure qgk (r:zp):Prop where
 key:r.key.length<4294967281
 text:r.text.length<4294967281
structure qe7 (xs:List FldV):Prop where
 len:xs.length<1000000
 val:∀ f∈xs,f.1.length<4294967281∧f.2.length<4294967281
theorem qgn (r:zp) (xs:List FldV) (st:List AObj) (hr:qgk r) (hx:qe7 xs):qp E 14 [wj r,y6 xs] st fun x st'=>x=Bv (decide (wl r xs))∧st'=st:=by
 refine zl (q7 _) (qw Tryz.func14 rfl (Nat.le_of_ble_eq_true rfl) ?_)
 have hl:=hx.len
 have hv:=qhl r.key xs
 repeat' (first|(apply vo;first|apply q4|apply za|apply qn|(apply qc;exact rfl;apply wo;exact cAo)|(apply qc;exact rfl;apply wv;exact cAo)|(apply qc;exact rfl;apply xm;exact cRa)|(apply qc;exact rfl;apply xl;exact cRa)|(apply qc;exact rfl;apply cd_n <;> intro h)|(apply qc;exact rfl;apply cd_t;exact cRa)|(apply qc;exact rfl;apply cd_f;exact cRa)|(apply qc;exact rfl;apply cd_d <;> intro h)|(apply qc;exact rfl;apply cd_s <;> intro h)|(apply vk;exact rfl;kernel_rfl)|apply zb|apply jg|apply ze)|(apply j5;first|(apply qr;(iterate 4 exact rfl))|(apply q8;(iterate 4 exact rfl)))|(apply wd;first|(apply kl;exact cAo)|(apply jo;exact cAo)|(apply jh;exact cAo)|(apply kj;exact cAo)|(apply ki;exact cRa)|(apply kw;exact cRa)|(apply j8;exact cRa)|(apply jr;exact cRa)|(apply js <;> intro h)|(apply vc;exact cRa)|(apply vq;exact cRa)|(apply ke;exact cRa)|(apply ju;exact cRa)|(apply z3 <;> intro h)|(apply vd <;> intro h))|(apply wc;first|apply wx|(apply v8;(iterate 4 exact rfl))|(apply w9;exact rfl;exact rfl;exact qj (by omega) (by omega))|(apply wb;(iterate 4 exact rfl);exact cAs;exact cAs)|(apply jm;(iterate 5 exact rfl))|(apply kp;exact rfl;exact rfl;exact cOs)|(apply j3;(iterate 3 exact rfl))|(apply jl;(iterate 5 exact rfl))|(apply zh;(iterate 4 exact rfl))|(apply zg;(iterate 3 exact rfl))|(apply w8;(iterate 3 exact rfl);exact cAs)|(apply wa;exact rfl;exact rfl)|(apply vm;exact rfl;exact rfl)|(apply vn;(iterate 3 exact rfl);omega)|(apply ko;(iterate 3 exact rfl))|apply v5|apply kh|(apply ww;exact rfl;exact rfl;exact qj (by omega) (by omega))|(apply v9;(iterate 3 exact rfl))|(apply v6;(iterate 3 exact rfl);exact cAs)|(apply vz;(iterate 3 exact rfl);exact cAs)|(apply jz;exact rfl;exact rfl))|(apply j4;first|(apply qz;(iterate 3 exact rfl))|(apply z4;(iterate 3 exact rfl))|(apply z7;exact rfl;exact rfl;exact cOs)|(apply z6;exact rfl;exact rfl;exact qj (by omega) (by omega))|(apply j9;exact rfl;exact rfl;exact qj (by omega) (by omega))|(apply zx;exact rfl;exact rfl)|(apply zz;exact rfl;exact rfl)|(apply zw;exact rfl;exact rfl)|(apply zy;exact rfl;exact rfl)|(apply zo;(iterate 3 exact rfl))|(apply z0;(iterate 3 exact rfl))|(apply jy;exact rfl;exact rfl;(first|exact qf _|exact rfl);first|exact qf _|exact rfl)|(apply jv;exact rfl;exact rfl;(first|exact qf _|exact rfl);first|exact qf _|exact rfl)|(apply kn;exact rfl;exact rfl;(first|exact qf _|exact rfl);first|exact qf _|exact rfl)|(apply jw;(iterate 3 exact rfl))|(apply jx;(iterate 3 exact rfl)))|(apply kr;first|(apply zu;(iterate 3 exact rfl))|(apply z2;(iterate 5 exact rfl))|(apply zj;(iterate 5 exact rfl)))|(apply ku;first|(apply jq;exact rfl)|(apply jf;exact rfl)|(apply ja;exact rfl))|(apply j6;first|(apply kc;(iterate 3 exact rfl);exact cAs)|(apply ka;(iterate 3 exact rfl);exact cAs)|(apply jt;(iterate 4 exact rfl);exact cAs;exact cAs)|(apply zq;(iterate 4 exact rfl);(first|assumption|omega|exact Nat.succ_le_succ (Nat.zero_le _)|(simp;omega));exact rfl))|(apply kq;first|(apply zm;(iterate 3 exact rfl))|(apply je;(iterate 4 exact rfl)))|(apply zt;first|(apply qt;(iterate 3 exact rfl))|(apply qy;(iterate 4 exact rfl)))|(apply j7;first|(apply zr;(iterate 11 exact rfl))|(apply zc;(iterate 11 exact rfl)))|(apply vp;first|apply qs|apply qu|apply qo|(apply zi;exact rfl;exact rfl)|(apply qe;exact rfl;apply we;exact cAo)|(apply qe;exact rfl;apply wi;exact cAo)|(apply qe;exact rfl;apply xy;exact cRa)|(apply qe;exact rfl;apply xx;exact cRa)|(apply qe;exact rfl;apply pk_t;exact cRa)|(apply qe;exact rfl;apply pk_f;exact cRa)|(apply qv;exact rfl;exact rfl)|apply zn|(apply jc;exact rfl;exact rfl)|(apply kz;(iterate 4 exact rfl))|(apply jn;(iterate 3 exact rfl))|(apply jd;(iterate 3 exact rfl);exact cAs)|(apply z9;(iterate 3 exact rfl))|(apply q9;(iterate 9 exact rfl))|(apply zk;exact rfl;exact rfl)|(apply jk;(iterate 4 exact rfl);(first|assumption|omega|decide);exact rfl)|(apply zf;(iterate 4 exact rfl);first|assumption|omega|decide))|(apply qx;exact Tryz.call15;exact qmk r _ hr.key)|(apply qx;exact Tryz.call24;exact qrk r.key xs _ (by omega))|(apply je;exact rfl;exact congrArg some List.length_map;exact rfl;exact rfl)|(apply qx;exact Tryz.call25;exact qn4 xs (fun f=> !decide (xf r f)) _ _ _ (by omega) Tryz.call26 (fun f hf=>q2e r f _ _ (by exact qmj (qmj (qa6 rfl))) hr.text (hx.val f hf).2)))
 all_goals refine qm rfl (zv rfl) ⟨congrArg Bv (?_:_=_),_,rfl⟩
 ·simp_all [wl]
 ·simp_all [wl]
 ·simp_all [wl]
  omega
 ·have e:wl r xs↔(xs.any fun f=> !decide (xf r f))=true:=by
   constructor
   ·rintro⟨_,h|h|h⟩
    ·omega
    ·omega
    ·exact h.2.2
   ·intro h
    exact⟨of_decide_eq_true (by assumption),.inr (.inr ⟨by assumption,by assumption,h⟩)⟩
  cases he:(xs.any fun f=> !decide (xf r f))
  ·exact (decide_eq_false fun h=>by rw [e,he] at h;cases h).symm
  ·exact (decide_eq_true (e.2 he)).symm
theorem qwu (r:zp):ya r↔(r.kind=6∨(1≤r.kind∧r.kind≤7∧yb r.key)):=by
 unfold ya
 constructor
 ·rintro⟨a,b,c|c⟩
  ·exact .inl c
  ·exact .inr ⟨a,b,c⟩
 ·rintro (c | ⟨a,b,c⟩)
  ·exact⟨by omega,by omega,.inl c⟩
  ·exact⟨a,b,.inr c⟩
theorem qsi (r:zp) (st:List AObj) (hl:r.key.length<4294967281):qp E 20 [wj r] st fun x st'=>x=Bv (decide (ya r))∧st'=st:=by
 refine zl (q7 _) (qw Tryz.func20 rfl (Nat.le_of_ble_eq_true rfl) ?_)
 repeat' (first|(apply vo;first|apply q4|apply za|apply qn|(apply qc;exact rfl;apply wo;exact cAo)|(apply qc;exact rfl;apply wv;exact cAo)|(apply qc;exact rfl;apply xm;exact cRa)|(apply qc;exact rfl;apply xl;exact cRa)|(apply qc;exact rfl;apply cd_n <;> intro h)|(apply qc;exact rfl;apply cd_t;exact cRa)|(apply qc;exact rfl;apply cd_f;exact cRa)|(apply qc;exact rfl;apply cd_d <;> intro h)|(apply qc;exact rfl;apply cd_s <;> intro h)|(apply vk;exact rfl;kernel_rfl)|apply zb|apply jg|apply ze)|(apply j5;first|(apply qr;(iterate 4 exact rfl))|(apply q8;(iterate 4 exact rfl)))|(apply wd;first|(apply kl;exact cAo)|(apply jo;exact cAo)|(apply jh;exact cAo)|(apply kj;exact cAo)|(apply ki;exact cRa)|(apply kw;exact cRa)|(apply j8;exact cRa)|(apply jr;exact cRa)|(apply js <;> intro h)|(apply vc;exact cRa)|(apply vq;exact cRa)|(apply ke;exact cRa)|(apply ju;exact cRa)|(apply z3 <;> intro h)|(apply vd <;> intro h))|(apply wc;first|apply wx|(apply v8;(iterate 4 exact rfl))|(apply w9;exact rfl;exact rfl;exact qj (by omega) (by omega))|(apply wb;(iterate 4 exact rfl);exact cAs;exact cAs)|(apply jm;(iterate 5 exact rfl))|(apply kp;exact rfl;exact rfl;exact cOs)|(apply j3;(iterate 3 exact rfl))|(apply jl;(iterate 5 exact rfl))|(apply zh;(iterate 4 exact rfl))|(apply zg;(iterate 3 exact rfl))|(apply w8;(iterate 3 exact rfl);exact cAs)|(apply wa;exact rfl;exact rfl)|(apply vm;exact rfl;exact rfl)|(apply vn;(iterate 3 exact rfl);omega)|(apply ko;(iterate 3 exact rfl))|apply v5|apply kh|(apply ww;exact rfl;exact rfl;exact qj (by omega) (by omega))|(apply v9;(iterate 3 exact rfl))|(apply v6;(iterate 3 exact rfl);exact cAs)|(apply vz;(iterate 3 exact rfl);exact cAs)|(apply jz;exact rfl;exact rfl))|(apply j4;first|(apply qz;(iterate 3 exact rfl))|(apply z4;(iterate 3 exact rfl))|(apply z7;exact rfl;exact rfl;exact cOs)|(apply z6;exact rfl;exact rfl;exact qj (by omega) (by omega))|(apply j9;exact rfl;exact rfl;exact qj (by omega) (by omega))|(apply zx;exact rfl;exact rfl)|(apply zz;exact rfl;exact rfl)|(apply zw;exact rfl;exact rfl)|(apply zy;exact rfl;exact rfl)|(apply zo;(iterate 3 exact rfl))|(apply z0;(iterate 3 exact rfl))|(apply jy;exact rfl;exact rfl;(first|exact qf _|exact rfl);first|exact qf _|exact rfl)|(apply jv;exact rfl;exact rfl;(first|exact qf _|exact rfl);first|exact qf _|exact rfl)|(apply kn;exact rfl;exact rfl;(first|exact qf _|exact rfl);first|exact qf _|exact rfl)|(apply jw;(iterate 3 exact rfl))|(apply jx;(iterate 3 exact rfl)))|(apply kr;first|(apply zu;(iterate 3 exact rfl))|(apply z2;(iterate 5 exact rfl))|(apply zj;(iterate 5 exact rfl)))|(apply ku;first|(apply jq;exact rfl)|(apply jf;exact rfl)|(apply ja;exact rfl))|(apply j6;first|(apply kc;(iterate 3 exact rfl);exact cAs)|(apply ka;(iterate 3 exact rfl);exact cAs)|(apply jt;(iterate 4 exact rfl);exact cAs;exact cAs)|(apply zq;(iterate 4 exact rfl);(first|assumption|omega|exact Nat.succ_le_succ (Nat.zero_le _)|(simp;omega));exact rfl))|(apply kq;first|(apply zm;(iterate 3 exact rfl))|(apply je;(iterate 4 exact rfl)))|(apply zt;first|(apply qt;(iterate 3 exact rfl))|(apply qy;(iterate 4 exact rfl)))|(apply j7;first|(apply zr;(iterate 11 exact rfl))|(apply zc;(iterate 11 exact rfl)))|(apply vp;first|apply qs|apply qu|apply qo|(apply zi;exact rfl;exact rfl)|(apply qe;exact rfl;apply we;exact cAo)|(apply qe;exact rfl;apply wi;exact cAo)|(apply qe;exact rfl;apply xy;exact cRa)|(apply qe;exact rfl;apply xx;exact cRa)|(apply qe;exact rfl;apply pk_t;exact cRa)|(apply qe;exact rfl;apply pk_f;exact cRa)|(apply qv;exact rfl;exact rfl)|apply zn|(apply jc;exact rfl;exact rfl)|(apply kz;(iterate 4 exact rfl))|(apply jn;(iterate 3 exact rfl))|(apply jd;(iterate 3 exact rfl);exact cAs)|(apply z9;(iterate 3 exact rfl))|(apply q9;(iterate 9 exact rfl))|(apply zk;exact rfl;exact rfl)|(apply jk;(iterate 4 exact rfl);(first|assumption|omega|decide);exact rfl)|(apply zf;(iterate 4 exact rfl);first|assumption|omega|decide))|(apply qx;exact Tryz.call38;exact qqu _ _ hl))
 all_goals refine qm rfl (zv rfl) ⟨congrArg Bv (?_:_=decide (ya r)),_,rfl⟩
 all_goals have e:=qwu r
 all_goals (simp_all <;> omega)
theorem q1t {l:qd} {f k:Nat} (h:f≤k) (hk:k≤l.length):l.drop f=(l.take k).drop f++l.drop k:=by
 conv=>lhs;rw [← List.take_append_drop k l]
 rw [List.drop_append_of_le_length (by simp;omega)]
theorem qzw {l:qd} {f k:Nat} (h:f≤k) (hk:k<l.length):(l.take (k+1)).drop f=(l.take k).drop f++[l.getD k 0]:=by
 rw [List.take_succ_eq_append_getElem hk,List.drop_append_of_le_length (by simp;omega)]
 simp [List.getD,hk]
theorem qly {l:qd} {f k:Nat} (h:f≤k) (hk:k=l.length) (hn:10∉(l.take k).drop f):vl (l.drop f)=[(l.take k).drop f]:=by
 subst hk
 rw [List.take_length] at hn ⊢
 exact qcb hn
theorem ql0 {l:qd} {f k:Nat} (h:f≤k) (hk:k<l.length) (hc:l.getD k 0=10) (hn:10∉(l.take k).drop f):vl (l.drop f)=(l.take k).drop f::vl (l.drop (k+1)):=by
 have e:l.drop f=(l.take k).drop f++10::l.drop (k+1):=by
  rw [q1t h (by omega),List.drop_eq_getElem_cons hk]
  have:l[k]=10:=by simpa [List.getD,hk] using hc
  rw [this]
 rw [e,qca (by simp),qa3 _ hn,qcp _ hn]
theorem qju (l w:List UInt8) (st:List AObj) (hl:l.length<4294967281):qp E 39 [Sv l,Sv w] st fun r st'=>r=Bv (decide (w∈wu l))∧st'=st:=by
 refine zl (q7 _) (qw Tryz.func39 rfl (Nat.le_of_ble_eq_true rfl) ?_)
 repeat' (first|(apply vo;first|apply q4|apply za|apply qn|(apply qc;exact rfl;apply wo;exact cAo)|(apply qc;exact rfl;apply wv;exact cAo)|(apply qc;exact rfl;apply xm;exact cRa)|(apply qc;exact rfl;apply xl;exact cRa)|(apply qc;exact rfl;apply cd_n <;> intro h)|(apply qc;exact rfl;apply cd_t;exact cRa)|(apply qc;exact rfl;apply cd_f;exact cRa)|(apply qc;exact rfl;apply cd_d <;> intro h)|(apply qc;exact rfl;apply cd_s <;> intro h)|(apply vk;exact rfl;kernel_rfl)|apply zb|apply jg|apply ze)|(apply j5;first|(apply qr;(iterate 4 exact rfl))|(apply q8;(iterate 4 exact rfl)))|(apply wd;first|(apply kl;exact cAo)|(apply jo;exact cAo)|(apply jh;exact cAo)|(apply kj;exact cAo)|(apply ki;exact cRa)|(apply kw;exact cRa)|(apply j8;exact cRa)|(apply jr;exact cRa)|(apply js <;> intro h)|(apply vc;exact cRa)|(apply vq;exact cRa)|(apply ke;exact cRa)|(apply ju;exact cRa)|(apply z3 <;> intro h)|(apply vd <;> intro h))|(apply wc;first|apply wx|(apply v8;(iterate 4 exact rfl))|(apply w9;exact rfl;exact rfl;exact qj (by omega) (by omega))|(apply wb;(iterate 4 exact rfl);exact cAs;exact cAs)|(apply jm;(iterate 5 exact rfl))|(apply kp;exact rfl;exact rfl;exact cOs)|(apply j3;(iterate 3 exact rfl))|(apply jl;(iterate 5 exact rfl))|(apply zh;(iterate 4 exact rfl))|(apply zg;(iterate 3 exact rfl))|(apply w8;(iterate 3 exact rfl);exact cAs)|(apply wa;exact rfl;exact rfl)|(apply vm;exact rfl;exact rfl)|(apply vn;(iterate 3 exact rfl);omega)|(apply ko;(iterate 3 exact rfl))|apply v5|apply kh|(apply ww;exact rfl;exact rfl;exact qj (by omega) (by omega))|(apply v9;(iterate 3 exact rfl))|(apply v6;(iterate 3 exact rfl);exact cAs)|(apply vz;(iterate 3 exact rfl);exact cAs)|(apply jz;exact rfl;exact rfl))|(apply j4;first|(apply qz;(iterate 3 exact rfl))|(apply z4;(iterate 3 exact rfl))|(apply z7;exact rfl;exact rfl;exact cOs)|(apply z6;exact rfl;exact rfl;exact qj (by omega) (by omega))|(apply j9;exact rfl;exact rfl;exact qj (by omega) (by omega))|(apply zx;exact rfl;exact rfl)|(apply zz;exact rfl;exact rfl)|(apply zw;exact rfl;exact rfl)|(apply zy;exact rfl;exact rfl)|(apply zo;(iterate 3 exact rfl))|(apply z0;(iterate 3 exact rfl))|(apply jy;exact rfl;exact rfl;(first|exact qf _|exact rfl);first|exact qf _|exact rfl)|(apply jv;exact rfl;exact rfl;(first|exact qf _|exact rfl);first|exact qf _|exact rfl)|(apply kn;exact rfl;exact rfl;(first|exact qf _|exact rfl);first|exact qf _|exact rfl)|(apply jw;(iterate 3 exact rfl))|(apply jx;(iterate 3 exact rfl)))|(apply kr;first|(apply zu;(iterate 3 exact rfl))|(apply z2;(iterate 5 exact rfl))|(apply zj;(iterate 5 exact rfl)))|(apply ku;first|(apply jq;exact rfl)|(apply jf;exact rfl)|(apply ja;exact rfl))|(apply j6;first|(apply kc;(iterate 3 exact rfl);exact cAs)|(apply ka;(iterate 3 exact rfl);exact cAs)|(apply jt;(iterate 4 exact rfl);exact cAs;exact cAs)|(apply zq;(iterate 4 exact rfl);(first|assumption|omega|exact Nat.succ_le_succ (Nat.zero_le _)|(simp;omega));exact rfl))|(apply kq;first|(apply zm;(iterate 3 exact rfl))|(apply je;(iterate 4 exact rfl)))|(apply zt;first|(apply qt;(iterate 3 exact rfl))|(apply qy;(iterate 4 exact rfl)))|(apply j7;first|(apply zr;(iterate 11 exact rfl))|(apply zc;(iterate 11 exact rfl)))|(apply vp;first|apply qs|apply qu|apply qo|(apply zi;exact rfl;exact rfl)|(apply qe;exact rfl;apply we;exact cAo)|(apply qe;exact rfl;apply wi;exact cAo)|(apply qe;exact rfl;apply xy;exact cRa)|(apply qe;exact rfl;apply xx;exact cRa)|(apply qe;exact rfl;apply pk_t;exact cRa)|(apply qe;exact rfl;apply pk_f;exact cRa)|(apply qv;exact rfl;exact rfl)|apply zn|(apply jc;exact rfl;exact rfl)|(apply kz;(iterate 4 exact rfl))|(apply jn;(iterate 3 exact rfl))|(apply jd;(iterate 3 exact rfl);exact cAs)|(apply z9;(iterate 3 exact rfl))|(apply q9;(iterate 9 exact rfl))|(apply zk;exact rfl;exact rfl)|(apply jk;(iterate 4 exact rfl);(first|assumption|omega|decide);exact rfl)|(apply zf;(iterate 4 exact rfl);first|assumption|omega|decide)))
 ·refine qm rfl (zv rfl) ⟨congrArg Bv (?_:_=decide (w∈wu l)),_,rfl⟩
  unfold wu
  simp_all
 have hne:¬ l=[]:=by assumption
 have hw:wu l=vl l:=by unfold wu;rw [if_neg hne]
 refine xk (fun (x:Nat×Nat) s=>x.2≤l.length+1∧(x.2≤l.length→x.1≤x.2∧10∉(l.take x.2).drop x.1∧(w∈vl l↔w∈vl (l.drop x.1)))∧(x.2=l.length+1→w∉vl l)∧StA [(0,Sv l),(1,Sv w),(5,Iv x.1),(6,Iv x.2)] (st++[]) [] s) (fun x=>l.length+1 - x.2) (0,0) ⟨by omega,fun _=>⟨by omega,by simp,by simp⟩,by simp,wr ⟨rfl,rfl,rfl,rfl,trivial⟩⟩ ?_
 rintro⟨f,k⟩ _ ⟨hk,h1,h2,t,rfl⟩
 simp only at hk h1 h2 ⊢
 rcases Nat.lt_or_ge l.length k with hc|hc
 ·skip
  repeat' (first|(apply vo;first|apply q4|apply za|apply qn|(apply qc;exact rfl;apply wo;exact cAo)|(apply qc;exact rfl;apply wv;exact cAo)|(apply qc;exact rfl;apply xm;exact cRa)|(apply qc;exact rfl;apply xl;exact cRa)|(apply qc;exact rfl;apply cd_n <;> intro h)|(apply qc;exact rfl;apply cd_t;exact cRa)|(apply qc;exact rfl;apply cd_f;exact cRa)|(apply qc;exact rfl;apply cd_d <;> intro h)|(apply qc;exact rfl;apply cd_s <;> intro h)|(apply vk;exact rfl;kernel_rfl)|apply zb|apply jg|apply ze)|(apply j5;first|(apply qr;(iterate 4 exact rfl))|(apply q8;(iterate 4 exact rfl)))|(apply wd;first|(apply kl;exact cAo)|(apply jo;exact cAo)|(apply jh;exact cAo)|(apply kj;exact cAo)|(apply ki;exact cRa)|(apply kw;exact cRa)|(apply j8;exact cRa)|(apply jr;exact cRa)|(apply js <;> intro h)|(apply vc;exact cRa)|(apply vq;exact cRa)|(apply ke;exact cRa)|(apply ju;exact cRa)|(apply z3 <;> intro h)|(apply vd <;> intro h))|(apply wc;first|apply wx|(apply v8;(iterate 4 exact rfl))|(apply w9;exact rfl;exact rfl;exact qj (by omega) (by omega))|(apply wb;(iterate 4 exact rfl);exact cAs;exact cAs)|(apply jm;(iterate 5 exact rfl))|(apply kp;exact rfl;exact rfl;exact cOs)|(apply j3;(iterate 3 exact rfl))|(apply jl;(iterate 5 exact rfl))|(apply zh;(iterate 4 exact rfl))|(apply zg;(iterate 3 exact rfl))|(apply w8;(iterate 3 exact rfl);exact cAs)|(apply wa;exact rfl;exact rfl)|(apply vm;exact rfl;exact rfl)|(apply vn;(iterate 3 exact rfl);omega)|(apply ko;(iterate 3 exact rfl))|apply v5|apply kh|(apply ww;exact rfl;exact rfl;exact qj (by omega) (by omega))|(apply v9;(iterate 3 exact rfl))|(apply v6;(iterate 3 exact rfl);exact cAs)|(apply vz;(iterate 3 exact rfl);exact cAs)|(apply jz;exact rfl;exact rfl))|(apply j4;first|(apply qz;(iterate 3 exact rfl))|(apply z4;(iterate 3 exact rfl))|(apply z7;exact rfl;exact rfl;exact cOs)|(apply z6;exact rfl;exact rfl;exact qj (by omega) (by omega))|(apply j9;exact rfl;exact rfl;exact qj (by omega) (by omega))|(apply zx;exact rfl;exact rfl)|(apply zz;exact rfl;exact rfl)|(apply zw;exact rfl;exact rfl)|(apply zy;exact rfl;exact rfl)|(apply zo;(iterate 3 exact rfl))|(apply z0;(iterate 3 exact rfl))|(apply jy;exact rfl;exact rfl;(first|exact qf _|exact rfl);first|exact qf _|exact rfl)|(apply jv;exact rfl;exact rfl;(first|exact qf _|exact rfl);first|exact qf _|exact rfl)|(apply kn;exact rfl;exact rfl;(first|exact qf _|exact rfl);first|exact qf _|exact rfl)|(apply jw;(iterate 3 exact rfl))|(apply jx;(iterate 3 exact rfl)))|(apply kr;first|(apply zu;(iterate 3 exact rfl))|(apply z2;(iterate 5 exact rfl))|(apply zj;(iterate 5 exact rfl)))|(apply ku;first|(apply jq;exact rfl)|(apply jf;exact rfl)|(apply ja;exact rfl))|(apply j6;first|(apply kc;(iterate 3 exact rfl);exact cAs)|(apply ka;(iterate 3 exact rfl);exact cAs)|(apply jt;(iterate 4 exact rfl);exact cAs;exact cAs)|(apply zq;(iterate 4 exact rfl);(first|assumption|omega|exact Nat.succ_le_succ (Nat.zero_le _)|(simp;omega));exact rfl))|(apply kq;first|(apply zm;(iterate 3 exact rfl))|(apply je;(iterate 4 exact rfl)))|(apply zt;first|(apply qt;(iterate 3 exact rfl))|(apply qy;(iterate 4 exact rfl)))|(apply j7;first|(apply zr;(iterate 11 exact rfl))|(apply zc;(iterate 11 exact rfl)))|(apply vp;first|apply qs|apply qu|apply qo|(apply zi;exact rfl;exact rfl)|(apply qe;exact rfl;apply we;exact cAo)|(apply qe;exact rfl;apply wi;exact cAo)|(apply qe;exact rfl;apply xy;exact cRa)|(apply qe;exact rfl;apply xx;exact cRa)|(apply qe;exact rfl;apply pk_t;exact cRa)|(apply qe;exact rfl;apply pk_f;exact cRa)|(apply qv;exact rfl;exact rfl)|apply zn|(apply jc;exact rfl;exact rfl)|(apply kz;(iterate 4 exact rfl))|(apply jn;(iterate 3 exact rfl))|(apply jd;(iterate 3 exact rfl);exact cAs)|(apply z9;(iterate 3 exact rfl))|(apply q9;(iterate 9 exact rfl))|(apply zk;exact rfl;exact rfl)|(apply jk;(iterate 4 exact rfl);(first|assumption|omega|decide);exact rfl)|(apply zf;(iterate 4 exact rfl);first|assumption|omega|decide)))
  refine qm rfl (zv rfl) ⟨congrArg Bv (?_:_=decide (w∈wu l)),_,rfl⟩
  rw [hw]
  exact (decide_eq_false (h2 (by omega))).symm
 ·obtain⟨a1,a2,a3⟩:=h1 hc
  repeat' (first|(apply vo;first|apply q4|apply za|apply qn|(apply qc;exact rfl;apply wo;exact cAo)|(apply qc;exact rfl;apply wv;exact cAo)|(apply qc;exact rfl;apply xm;exact cRa)|(apply qc;exact rfl;apply xl;exact cRa)|(apply qc;exact rfl;apply cd_n <;> intro h)|(apply qc;exact rfl;apply cd_t;exact cRa)|(apply qc;exact rfl;apply cd_f;exact cRa)|(apply qc;exact rfl;apply cd_d <;> intro h)|(apply qc;exact rfl;apply cd_s <;> intro h)|(apply vk;exact rfl;kernel_rfl)|apply zb|apply jg|apply ze)|(apply j5;first|(apply qr;(iterate 4 exact rfl))|(apply q8;(iterate 4 exact rfl)))|(apply wd;first|(apply kl;exact cAo)|(apply jo;exact cAo)|(apply jh;exact cAo)|(apply kj;exact cAo)|(apply ki;exact cRa)|(apply kw;exact cRa)|(apply j8;exact cRa)|(apply jr;exact cRa)|(apply js <;> intro h)|(apply vc;exact cRa)|(apply vq;exact cRa)|(apply ke;exact cRa)|(apply ju;exact cRa)|(apply z3 <;> intro h)|(apply vd <;> intro h))|(apply wc;first|apply wx|(apply v8;(iterate 4 exact rfl))|(apply w9;exact rfl;exact rfl;exact qj (by omega) (by omega))|(apply wb;(iterate 4 exact rfl);exact cAs;exact cAs)|(apply jm;(iterate 5 exact rfl))|(apply kp;exact rfl;exact rfl;exact cOs)|(apply j3;(iterate 3 exact rfl))|(apply jl;(iterate 5 exact rfl))|(apply zh;(iterate 4 exact rfl))|(apply zg;(iterate 3 exact rfl))|(apply w8;(iterate 3 exact rfl);exact cAs)|(apply wa;exact rfl;exact rfl)|(apply vm;exact rfl;exact rfl)|(apply vn;(iterate 3 exact rfl);omega)|(apply ko;(iterate 3 exact rfl))|apply v5|apply kh|(apply ww;exact rfl;exact rfl;exact qj (by omega) (by omega))|(apply v9;(iterate 3 exact rfl))|(apply v6;(iterate 3 exact rfl);exact cAs)|(apply vz;(iterate 3 exact rfl);exact cAs)|(apply jz;exact rfl;exact rfl))|(apply j4;first|(apply qz;(iterate 3 exact rfl))|(apply z4;(iterate 3 exact rfl))|(apply z7;exact rfl;exact rfl;exact cOs)|(apply z6;exact rfl;exact rfl;exact qj (by omega) (by omega))|(apply j9;exact rfl;exact rfl;exact qj (by omega) (by omega))|(apply zx;exact rfl;exact rfl)|(apply zz;exact rfl;exact rfl)|(apply zw;exact rfl;exact rfl)|(apply zy;exact rfl;exact rfl)|(apply zo;(iterate 3 exact rfl))|(apply z0;(iterate 3 exact rfl))|(apply jy;exact rfl;exact rfl;(first|exact qf _|exact rfl);first|exact qf _|exact rfl)|(apply jv;exact rfl;exact rfl;(first|exact qf _|exact rfl);first|exact qf _|exact rfl)|(apply kn;exact rfl;exact rfl;(first|exact qf _|exact rfl);first|exact qf _|exact rfl)|(apply jw;(iterate 3 exact rfl))|(apply jx;(iterate 3 exact rfl)))|(apply kr;first|(apply zu;(iterate 3 exact rfl))|(apply z2;(iterate 5 exact rfl))|(apply zj;(iterate 5 exact rfl)))|(apply ku;first|(apply jq;exact rfl)|(apply jf;exact rfl)|(apply ja;exact rfl))|(apply j6;first|(apply kc;(iterate 3 exact rfl);exact cAs)|(apply ka;(iterate 3 exact rfl);exact cAs)|(apply jt;(iterate 4 exact rfl);exact cAs;exact cAs)|(apply zq;(iterate 4 exact rfl);(first|assumption|omega|exact Nat.succ_le_succ (Nat.zero_le _)|(simp;omega));exact rfl))|(apply kq;first|(apply zm;(iterate 3 exact rfl))|(apply je;(iterate 4 exact rfl)))|(apply zt;first|(apply qt;(iterate 3 exact rfl))|(apply qy;(iterate 4 exact rfl)))|(apply j7;first|(apply zr;(iterate 11 exact rfl))|(apply zc;(iterate 11 exact rfl)))|(apply vp;first|apply qs|apply qu|apply qo|(apply zi;exact rfl;exact rfl)|(apply qe;exact rfl;apply we;exact cAo)|(apply qe;exact rfl;apply wi;exact cAo)|(apply qe;exact rfl;apply xy;exact cRa)|(apply qe;exact rfl;apply xx;exact cRa)|(apply qe;exact rfl;apply pk_t;exact cRa)|(apply qe;exact rfl;apply pk_f;exact cRa)|(apply qv;exact rfl;exact rfl)|apply zn|(apply jc;exact rfl;exact rfl)|(apply kz;(iterate 4 exact rfl))|(apply jn;(iterate 3 exact rfl))|(apply jd;(iterate 3 exact rfl);exact cAs)|(apply z9;(iterate 3 exact rfl))|(apply q9;(iterate 9 exact rfl))|(apply zk;exact rfl;exact rfl)|(apply jk;(iterate 4 exact rfl);(first|assumption|omega|decide);exact rfl)|(apply zf;(iterate 4 exact rfl);first|assumption|omega|decide)))
  ·refine qm rfl (zv rfl) ⟨congrArg Bv (?_:_=decide (w∈wu l)),_,rfl⟩
   refine (decide_eq_true ?_).symm
   rw [hw,a3,qly a1 (by omega) a2]
   simp_all
  ·refine⟨(k+1,k+1),⟨by simp only;omega,fun h=>absurd h (by simp only;omega),fun _ h=>?_,wr ⟨rfl,rfl,rfl,rfl,trivial⟩⟩,by simp only;omega⟩
   rw [a3,qly a1 (by omega) a2] at h
   simp_all
  ·refine qm rfl (zv rfl) ⟨congrArg Bv (?_:_=decide (w∈wu l)),_,rfl⟩
   refine (decide_eq_true ?_).symm
   rw [hw,a3,ql0 a1 (by omega) ((qcj _).1 (by assumption)) a2]
   simp_all
  ·have a4:=ql0 a1 (by omega) ((qcj _).1 (by assumption)) a2
   refine⟨(k+1,k+1),⟨by simp only;omega,fun h=>⟨by simp only;omega,by simp,?_⟩,fun h=>absurd h (by simp only;omega),wr ⟨rfl,rfl,rfl,rfl,trivial⟩⟩,by simp only;omega⟩
   rw [a3,a4,List.mem_cons]
   exact⟨fun h=>h.resolve_left (fun e=>absurd e.symm (by assumption)),.inr⟩
  ·refine⟨(f,k+1),⟨by simp only;omega,fun h=>⟨by simp only;omega,?_,a3⟩,fun h=>absurd h (by simp only;omega),wr ⟨rfl,rfl,rfl,rfl,trivial⟩⟩,by simp only;omega⟩
   simp only
   rw [qzw a1 (by omega),List.mem_append,List.mem_singleton]
   rintro (h|h)
   ·exact a2 h
   ·exact absurd ((qcj _).2 h.symm) (by assumption)
def badR (r:zp) (f:FldV):Bool:= !decide (xf r f)
def cntR (r:zp) (xs:List FldV):Nat:=if r.kind=6 then 0 else (vf r.key xs).length
theorem qys {r:zp} {xs:List FldV} {k:Nat} (hk:k<xs.length):cntR r (xs.take (k+1))=cntR r (xs.take k)+if r.kind≠6∧(xs.getD k ([],[])).1=r.key then 1 else 0:=by
 unfold cntR
 by_cases h6:r.kind=6
 ·simp [h6]
 ·rw [if_neg h6,if_neg h6,qdv hk,List.length_append]
  by_cases h:(xs.getD k ([],[])).1=r.key
  ·rw [if_pos h,if_pos ⟨h6,h⟩];rfl
  ·rw [if_neg h,if_neg (fun e=>h e.2)];rfl
theorem bad6 {r:zp} {f:FldV} (h:r.kind=6):badR r f = !decide (f.1∈wu r.text):=by
 have e:xf r f↔f.1∈wu r.text:=by simp [xf,h]
 unfold badR
 simp only [e]
theorem bad4 {r:zp} {f:FldV} (h:r.kind=4) (h2:f.1=r.key):badR r f = !decide (f.2∈wu r.text):=by
 have e:xf r f↔f.2∈wu r.text:=by simp [xf,h,h2]
 unfold badR
 simp only [e]
theorem bad5 {r:zp} {f:FldV} (h:r.kind=5) (h2:f.1=r.key) (h3:¬ (f.2.length:Int)<r.lo):badR r f=decide (r.hi<(f.2.length:Int)):=by
 have e:xf r f↔(f.2.length:Int)≤r.hi:=by
  simp only [xf,h,h2,qba]
  constructor
  ·intro h';exact (h'.2.2.1 trivial trivial).2
  ·intro h';exact⟨fun h=>by omega,fun h=>by omega,fun _ _=>⟨by omega,h'⟩,fun h=>by omega⟩
 unfold badR
 rw [← decide_not]
 have e2:(¬ xf r f)↔r.hi<(f.2.length:Int):=by rw [e];omega
 simp only [e2]
theorem bad3 {r:zp} {f:FldV} {v:Int} (h:r.kind=3) (h2:f.1=r.key) (hz:numZ f.2=some v) (h3:¬ v<r.lo):badR r f=decide (r.hi<v):=by
 have e:xf r f↔v≤r.hi:=by
  simp only [xf,h,h2,qba,qcy,hz]
  constructor
  ·intro h'
   obtain⟨n,e1,e2,e3⟩:=h'.1 trivial trivial
   cases e1
   exact e3
  ·intro h';exact⟨fun _ _=>⟨v,rfl,by omega,h'⟩,fun h=>by omega,fun h=>by omega,fun h=>by omega⟩
 unfold badR
 rw [← decide_not]
 have e2:(¬ xf r f)↔r.hi<v:=by rw [e];omega
 simp only [e2]
theorem qiy {r:zp} {xs:List FldV} (h:r.kind≠6):cntR r xs=(vf r.key xs).length:=if_neg h
theorem qyo {r:zp} {xs:List FldV} (h7:r.kind≠7):wl r xs↔ya r∧(xs.any (badR r)=true∨(r.kind=1∧cntR r xs=0)∨(r.kind=2∧1<cntR r xs)):=by
 have h12:(r.kind=1∨r.kind=2)→xs.any (badR r)=false:=by
  intro h
  rw [List.any_eq_false]
  intro f _
  have:xf r f:=⟨fun _=>by omega,fun _=>by omega,fun _=>by omega,fun _=>by omega⟩
  simp [badR,this]
 unfold wl
 constructor
 ·rintro⟨hg,h|h|h⟩
  ·exact⟨hg,.inr (.inl ⟨h.1,by rw [qiy (by omega)];exact h.2⟩)⟩
  ·exact⟨hg,.inr (.inr ⟨h.1,by rw [qiy (by omega)];exact h.2⟩)⟩
  ·exact⟨hg,.inl h.2.2⟩
 ·rintro⟨hg,h|h|h⟩
  ·by_cases h1:r.kind=1∨r.kind=2
   ·rw [h12 h1] at h;cases h
   ·exact⟨hg,.inr (.inr ⟨fun e=>h1 (.inl e),fun e=>h1 (.inr e),h⟩)⟩
  ·exact⟨hg,.inl ⟨h.1,by rw [← qiy (by omega)];exact h.2⟩⟩
  ·exact⟨hg,.inr (.inl ⟨h.1,by rw [← qiy (by omega)];exact h.2⟩)⟩
def qci:qd:=[83,105,122,101]
def qb2:zp:=⟨3,qci,[],0,9⟩
theorem q2t:ya qb2:=by decide +kernel
theorem brx1:wl qb2 [(qci,[49,48])]:=by decide +kernel
theorem brx2:wl qb2 [(qci,[48,55])]:=by decide +kernel
theorem brx3:¬ wl qb2 [(qci,[55])]:=by decide +kernel
theorem rb_x:qgk qb2:=⟨by decide,by decide⟩
theorem fb_x (l:qd) (h:l.length≤9):qe7 [(qci,l)]:=⟨by simp,fun f hf=>by
 simp at hf
 subst hf
 exact⟨by simp [qci],by simp only;omega⟩⟩
theorem q2f (st:List AObj):qp E 14 [wj qb2,y6 [(qci,[49,48])]] st fun x st'=>x=Bv true∧st'=st:=by
 have:=qgn qb2 [(qci,[49,48])] st rb_x (fb_x _ (by decide))
 rwa [decide_eq_true brx1] at this
theorem q2g (st:List AObj):qp E 14 [wj qb2,y6 [(qci,[48,55])]] st fun x st'=>x=Bv true∧st'=st:=by
 have:=qgn qb2 [(qci,[48,55])] st rb_x (fb_x _ (by decide))
 rwa [decide_eq_true brx2] at this
theorem q2h (st:List AObj):qp E 14 [wj qb2,y6 [(qci,[55])]] st fun x st'=>x=Bv false∧st'=st:=by
 have:=qgn qb2 [(qci,[55])] st rb_x (fb_x _ (by decide))
 rwa [decide_eq_false brx3] at this
theorem q02 (st:List AObj):qp E 15 [wj qb2] st fun x st'=>x=Bv true∧st'=st:=by
 have:=qmk qb2 st (by decide)
 rwa [decide_eq_true q2t] at this
theorem qvy (st:List AObj):qp E 5 [] st fun x st'=>x=Bv true∧st'=st:=by
 refine zl (q7 _) (qw Tryz.func5 rfl (Nat.le_of_ble_eq_true rfl) ?_)
 repeat' (first|(apply vo;first|apply q4|apply za|apply qn|(apply qc;exact rfl;apply wo;exact cAo)|(apply qc;exact rfl;apply wv;exact cAo)|(apply qc;exact rfl;apply xm;exact cRa)|(apply qc;exact rfl;apply xl;exact cRa)|(apply qc;exact rfl;apply cd_n <;> intro h)|(apply qc;exact rfl;apply cd_t;exact cRa)|(apply qc;exact rfl;apply cd_f;exact cRa)|(apply qc;exact rfl;apply cd_d <;> intro h)|(apply qc;exact rfl;apply cd_s <;> intro h)|(apply vk;exact rfl;kernel_rfl)|apply zb|apply jg|apply ze)|(apply j5;first|(apply qr;(iterate 4 exact rfl))|(apply q8;(iterate 4 exact rfl)))|(apply wd;first|(apply kl;exact cAo)|(apply jo;exact cAo)|(apply jh;exact cAo)|(apply kj;exact cAo)|(apply ki;exact cRa)|(apply kw;exact cRa)|(apply j8;exact cRa)|(apply jr;exact cRa)|(apply js <;> intro h)|(apply vc;exact cRa)|(apply vq;exact cRa)|(apply ke;exact cRa)|(apply ju;exact cRa)|(apply z3 <;> intro h)|(apply vd <;> intro h))|(apply wc;first|apply wx|(apply v8;(iterate 4 exact rfl))|(apply w9;exact rfl;exact rfl;exact qj (by omega) (by omega))|(apply wb;(iterate 4 exact rfl);exact cAs;exact cAs)|(apply jm;(iterate 5 exact rfl))|(apply kp;exact rfl;exact rfl;exact cOs)|(apply j3;(iterate 3 exact rfl))|(apply jl;(iterate 5 exact rfl))|(apply zh;(iterate 4 exact rfl))|(apply zg;(iterate 3 exact rfl))|(apply w8;(iterate 3 exact rfl);exact cAs)|(apply wa;exact rfl;exact rfl)|(apply vm;exact rfl;exact rfl)|(apply vn;(iterate 3 exact rfl);omega)|(apply ko;(iterate 3 exact rfl))|apply v5|apply kh|(apply ww;exact rfl;exact rfl;exact qj (by omega) (by omega))|(apply v9;(iterate 3 exact rfl))|(apply v6;(iterate 3 exact rfl);exact cAs)|(apply vz;(iterate 3 exact rfl);exact cAs)|(apply jz;exact rfl;exact rfl))|(apply j4;first|(apply qz;(iterate 3 exact rfl))|(apply z4;(iterate 3 exact rfl))|(apply z7;exact rfl;exact rfl;exact cOs)|(apply z6;exact rfl;exact rfl;exact qj (by omega) (by omega))|(apply j9;exact rfl;exact rfl;exact qj (by omega) (by omega))|(apply zx;exact rfl;exact rfl)|(apply zz;exact rfl;exact rfl)|(apply zw;exact rfl;exact rfl)|(apply zy;exact rfl;exact rfl)|(apply zo;(iterate 3 exact rfl))|(apply z0;(iterate 3 exact rfl))|(apply jy;exact rfl;exact rfl;(first|exact qf _|exact rfl);first|exact qf _|exact rfl)|(apply jv;exact rfl;exact rfl;(first|exact qf _|exact rfl);first|exact qf _|exact rfl)|(apply kn;exact rfl;exact rfl;(first|exact qf _|exact rfl);first|exact qf _|exact rfl)|(apply jw;(iterate 3 exact rfl))|(apply jx;(iterate 3 exact rfl)))|(apply kr;first|(apply zu;(iterate 3 exact rfl))|(apply z2;(iterate 5 exact rfl))|(apply zj;(iterate 5 exact rfl)))|(apply ku;first|(apply jq;exact rfl)|(apply jf;exact rfl)|(apply ja;exact rfl))|(apply j6;first|(apply kc;(iterate 3 exact rfl);exact cAs)|(apply ka;(iterate 3 exact rfl);exact cAs)|(apply jt;(iterate 4 exact rfl);exact cAs;exact cAs)|(apply zq;(iterate 4 exact rfl);(first|assumption|omega|exact Nat.succ_le_succ (Nat.zero_le _)|(simp;omega));exact rfl))|(apply kq;first|(apply zm;(iterate 3 exact rfl))|(apply je;(iterate 4 exact rfl)))|(apply zt;first|(apply qt;(iterate 3 exact rfl))|(apply qy;(iterate 4 exact rfl)))|(apply j7;first|(apply zr;(iterate 11 exact rfl))|(apply zc;(iterate 11 exact rfl)))|(apply vp;first|apply qs|apply qu|apply qo|(apply zi;exact rfl;exact rfl)|(apply qe;exact rfl;apply we;exact cAo)|(apply qe;exact rfl;apply wi;exact cAo)|(apply qe;exact rfl;apply xy;exact cRa)|(apply qe;exact rfl;apply xx;exact cRa)|(apply qe;exact rfl;apply pk_t;exact cRa)|(apply qe;exact rfl;apply pk_f;exact cRa)|(apply qv;exact rfl;exact rfl)|apply zn|(apply jc;exact rfl;exact rfl)|(apply kz;(iterate 4 exact rfl))|(apply jn;(iterate 3 exact rfl))|(apply jd;(iterate 3 exact rfl);exact cAs)|(apply z9;(iterate 3 exact rfl))|(apply q9;(iterate 9 exact rfl))|(apply zk;exact rfl;exact rfl)|(apply jk;(iterate 4 exact rfl);(first|assumption|omega|decide);exact rfl)|(apply zf;(iterate 4 exact rfl);first|assumption|omega|decide))|(apply qx;exact Tryz.call14;exact q2f _)|(apply qx;exact Tryz.call14;exact q2g _)|(apply qx;exact Tryz.call14;exact q2h _)|(apply qx;exact Tryz.call15;exact q02 _))
 exact qm rfl (zv rfl) ⟨rfl,_,rfl⟩
theorem qvc (r:zp):qiw (wj r):=by
 intro y hy
 simp [AV.cells] at hy
 rcases hy with rfl|rfl|rfl|rfl|rfl <;> exact q7 _
end Go.Proofs.YtmjmdjbdoiddeaaGreatDoor
namespace Go.Av
open Go Go.RowKit Go.WideShapes Go.ChangeShapes Go.Deep
def gW (W:World):Gh:=⟨fun b=>match W.heap[b]? with|some (.cells c _ _)=>some c.toList | _=>none,fun _=>⟨0,0,0,false⟩,0⟩
theorem q2s {W:World} {b:Nat} {c:Array Value} {T:TypeId} {fz:Nat×Nat} (h:W.heap[b]? = some (.cells c T fz)):(gW W).pub b=some c.toList:=by
 simp [gW,h]
theorem qor (W:World):zd W.heap.size W (gW W) [] W:=by
 refine⟨Below.refl _ _,Nat.le_refl _,rfl,fun b vs h=>?_,fun o x h=>by simp at h,fun o o' x x' _ h=>by simp at h⟩
 simp only [gW] at h
 split at h
 ·rename_i c T fz hb
  cases h
  exact⟨c,T,fz,hb,fun i y hy=>by simpa using hy⟩
 ·cases h
theorem qk3 {E:Env} {f:FuncId} {args:List AV} {vals:Array Value} {b:Bool} {W:World} (h:qp E f args [] fun r st'=>r=Bv b∧st'=[]) (hL:E.L W.heap.size W) (ha:RelL (gW W) args vals) :
  Calls E.P f vals W fun e w'=>e = .returned (.bool b)∧Below W.heap.size W w':=by
 refine (h.run W.heap.size W (gW W) vals W hL (qor W) ha).mono ?_
 rintro e w' ⟨v,G',r,st',rfl,_,hA,hr,rfl,_⟩
 cases hr
 exact⟨rfl,hA.below⟩
theorem qzr {G:Gh}:RelL G [] #[]:=⟨rfl,fun i x y h=>by simp at h⟩
theorem qnz {G:Gh} {a:AV} {us:List AV} {v:Value} {vs:List Value} (h:Rel G a v) (hs:RelL G us vs.toArray):RelL G (a::us) (v::vs).toArray:=by
 refine⟨by simpa using hs.1,fun i x y hx hy=>?_⟩
 cases i with
 |zero=>simp at hx hy;subst hx;subst hy;exact h
 |succ i=>exact hs.2 i x y (by simpa using hx) (by simpa using hy)
def RelK (G:Gh) (us:List AV) (cs:List Value):Prop:=us.length=cs.length∧∀ (i:Nat) (x:AV) (y:Value),us[i]? = some x→cs[i]? = some y→Rel G x y
theorem qhb {G:Gh} {a:AV} {v:Value} (h:Rel G a v):RelK G [a] [v]:=⟨rfl,fun i x y hx hy=>by
 cases i with
 |zero=>simp at hx hy;subst hx;subst hy;exact h
 |succ i=>simp at hx⟩
theorem RelK.one {G:Gh} {a:AV} {v:Value} (h:RelK G [a] [v]):Rel G a v:=h.2 0 a v rfl rfl
def Opn (P:Program) (t:TypeId) (S:AV→Prop):Prop:=∀ (H:Type) (enc:TypeId×Value→H) (W:World) (fuel:Nat) (cs:List Value) (x:DataW H×List MemPlace),
 DataW.trod enc P W 0 (fun _=>true) true fuel t cs=some x→∃ a,S a∧RelK (gW W) a.cells cs
def IsS (a:AV):Prop:=∃ l:List UInt8,a=Sv l∧l.length≤maxLen
def IsI (k:IntKind) (a:AV):Prop:=∃ n:Int,a = .v (.int k n)∧(Lit.int k n).wf=true
def IsSl (sz:Nat) (S:AV→Prop) (a:AV):Prop:=∃ xs:List AV,a = .sl sz xs none∧xs.length≤maxLen∧∀ x∈xs,S x
def IsAg (Ss:List (AV→Prop)) (a:AV):Prop:=∃ vs:List AV,a = .ag vs∧vs.length=Ss.length∧∀ (i:Nat) (S:AV→Prop) (v:AV),Ss[i]? = some S→vs[i]? = some v→S v
def One (S:AV→Prop):Prop:=∀ a,S a→a.cells=[a]
theorem q0a:One IsS:=by rintro _ ⟨l,rfl,_⟩;rfl
theorem qu5 (k:IntKind):One (IsI k):=by rintro _ ⟨l,rfl,_⟩;rfl
theorem q0d (s:ByteArray):Sv s.data.toList = .v (.string s):=by cases s;simp
theorem q0b {P:Program} {t:TypeId} (hu:P.underlying t=some .string):Opn P t IsS:=by
 intro H enc W fuel cs x h
 obtain⟨s,rfl,_,hs⟩:=DataW.trod_string hu h
 refine⟨Sv s.data.toList,⟨_,rfl,by simpa using hs⟩,qhb ?_⟩
 rw [q0d]
 exact .v _
theorem qu7 {P:Program} {t:TypeId} {k:IntKind} (hu:P.underlying t=some (.int k)):Opn P t (IsI k):=by
 intro H enc W fuel cs x h
 obtain⟨n,rfl,_,hs⟩:=DataW.trod_int hu h
 exact⟨_,⟨n,rfl,hs⟩,qhb (.v _)⟩
theorem qjk {n:Nat} {Q:Nat→AV→Prop} (h:∀ i,i<n→∃ a,Q i a):∃ vs:List AV,vs.length=n∧∀ i v,vs[i]? = some v→Q i v:=by
 induction n with
 |zero=>exact⟨[],rfl,fun i v h=>by simp at h⟩
 |succ n ih=>
  obtain⟨vs,hl,hv⟩:=ih fun i hi=>h i (by omega)
  obtain⟨a,ha⟩:=h n (by omega)
  refine⟨vs++[a],by simp [hl],fun i v hi=>?_⟩
  rcases Nat.lt_or_ge i n with hc|hc
  ·rw [List.getElem?_append_left (by omega)] at hi
   exact hv i v hi
  ·rw [List.getElem?_append_right (by omega)] at hi
   have:i - vs.length=0:=by
    rcases Nat.eq_zero_or_pos (i - vs.length) with h0|h0
    ·exact h0
    ·rw [List.getElem?_eq_none (by simp;omega)] at hi;cases hi
   rw [this] at hi
   simp at hi
   subst hi
   have:i=n:=by omega
   subst this
   exact ha
theorem q27 {P:Program} {t:TypeId} {fs:Array Field} {Ss:List (AV→Prop)} (hu:P.underlying t=some (.struct fs)) (hone:oneCellFields P fs=true) (hC:P.cellsOf t=fs.size) (hl:Ss.length=fs.size)
  (hS:∀ (i:Nat) (f:Field) (S:AV→Prop),fs[i]? = some f→Ss[i]? = some S→Opn P f.type S∧One S):Opn P t (IsAg Ss):=by
 intro H enc W fuel cs x h
 obtain⟨xs,n,_,_,hcl,hxl,hf⟩:=DataW.trod_struct hu h
 have hcs:cs.length=fs.size:=hcl.trans hC
 have step:∀ i,i<fs.size→∃ a:AV,(∀ S,Ss[i]? = some S→S a)∧∀ y,cs[i]? = some y→Rel (gW W) a y:=by
  intro i hi
  have hfi:fs[i]? = some fs[i]:=Array.getElem?_eq_getElem hi
  have hSi:Ss[i]? = some (Ss[i]'(by omega)):=List.getElem?_eq_getElem (by omega)
  obtain⟨hO,h1⟩:=hS i _ _ hfi hSi
  obtain⟨ho,hk⟩:=hone_of hone i _ hfi
  have ht:=hf i _ hfi
  rw [ho,hk] at ht
  have hd:(cs.drop i).take 1=[cs[i]'(by omega)]:=by
   rw [List.drop_eq_getElem_cons (by omega)]
   rfl
  rw [hd,List.getElem?_eq_getElem (by omega)] at ht
  obtain⟨a,ha,hr⟩:=hO H enc W n _ _ ht
  rw [h1 a ha] at hr
  refine⟨a,fun S hs=>?_,fun y hy=>?_⟩
  ·rw [hSi] at hs;cases hs;exact ha
  ·rw [List.getElem?_eq_getElem (by omega)] at hy;cases hy;exact hr.one
 obtain⟨vs,hvl,hv⟩:=qjk step
 refine⟨.ag vs,⟨vs,rfl,by omega,fun i S v hs hvi=>(hv i v hvi).1 S hs⟩,by show vs.length=cs.length;omega,fun i x y hx hy=>(hv i x hx).2 y hy⟩
theorem qsw {W:World} {a:Addr} {n:Nat} {v:Value} (h:W.cell? (a.add n)=some v):∃ (c:Array Value) (T:TypeId) (fz:Nat×Nat),W.heap[a.block]? = some (.cells c T fz)∧c[a.off+n]? = some v∧(n=0→a.spot=none):=by
 unfold World.cell? Addr.add at h
 by_cases hn:n=0
 ·subst hn
  simp only [if_true] at h
  split at h
  ·rename_i c T fz hb
   split at h
   ·cases h
   ·rename_i hs
    exact⟨c,T,fz,hb,by simpa using h,fun _=>by simpa using hs⟩
  ·cases h
 ·rw [if_neg hn] at h
  simp only at h
  split at h
  ·rename_i c T fz hb
   exact⟨c,T,fz,hb,by simpa using h,fun e=>absurd e hn⟩
  ·cases h
theorem q28 {P:Program} {t e:TypeId} {sz:Nat} {S:AV→Prop} (hu:P.underlying t=some (.slice e)) (hC:P.cellsOf e=sz) (hz:0<sz) (hS:Opn P e S):Opn P t (IsSl sz S):=by
 intro H enc W fuel cs x h
 rcases open_slice hu h with⟨rfl,_⟩ | ⟨a,len,cap,m,n,D,Pl,rfl,_,hlc,hcm,hm,_,hel⟩
 ·exact⟨.sl sz [] none,⟨[],rfl,by simp,by simp⟩,qhb (.sl0 sz none _ _ (by simp))⟩
 ·have hm':len≤m:=by rw [hm];simpa using hlc
  rw [hC] at hel
  have step:∀ i,i<len→∃ y:AV,S y∧y.cells.length=sz∧∀ j,j<sz→∃ (u:AV) (v:Value),y.cells[j]? = some u∧W.cell? (a.add (i * sz+j))=some v∧Rel (gW W) u v:=by
   intro i hi
   obtain⟨cs',hc,ht⟩:=hel i (by omega)
   obtain⟨_,hcl,hat⟩:=World.cells?_some hc
   obtain⟨y,hy,hr⟩:=hS H enc W n cs' _ ht
   refine⟨y,hy,hr.1.trans hcl,fun j hj=>?_⟩
   have h1:y.cells[j]? = some (y.cells[j]'(by rw [hr.1,hcl];exact hj)):=List.getElem?_eq_getElem _
   have h2:cs'[j]? = some (cs'[j]'(by omega)):=List.getElem?_eq_getElem _
   refine⟨_,_,h1,?_,hr.2 j _ _ h1 h2⟩
   rw [← Go.Deep.add_add,hat j hj,h2]
  obtain⟨xs,hxl,hx⟩:=qjk step
  have hmem:∀ y∈xs,S y∧y.cells.length=sz:=fun y hy=>by
   obtain⟨i,hi,rfl⟩:=List.mem_iff_getElem.1 hy
   have:=hx i xs[i] (List.getElem?_eq_getElem hi)
   exact⟨this.1,this.2.1⟩
  refine⟨.sl sz xs none,⟨xs,rfl,by omega,fun y hy=>(hmem y hy).1⟩,qhb ?_⟩
  rcases Nat.eq_zero_or_pos len with h0|h0
  ·subst h0
   have:xs=[]:=List.length_eq_zero_iff.1 hxl
   subst this
   exact .sl0 sz none _ _ (by simp)
  ·have hfl:(flat xs).length=len * sz:=by rw [xi fun y hy=>(hmem y hy).2,hxl]
   have at0:∀ k,k<len * sz→∃ (u:AV) (v:Value),(flat xs)[k]? = some u∧W.cell? (a.add k)=some v∧Rel (gW W) u v:=by
    intro k hk
    have hq:k / sz<len:=(Nat.div_lt_iff_lt_mul hz).2 hk
    have hr:k % sz<sz:=Nat.mod_lt _ hz
    have e:k / sz * sz+k % sz=k:=by rw [Nat.mul_comm];exact Nat.div_add_mod k sz
    have hxi:xs[k / sz]? = some (xs[k / sz]'(by omega)):=List.getElem?_eq_getElem _
    obtain⟨_,_,hj⟩:=hx _ _ hxi
    obtain⟨u,v,h1,h2,h3⟩:=hj _ hr
    have:=qj7 (sz:=sz) (fun y hy=>(hmem y hy).2) hxi _ hr
    rw [e] at this h2
    exact⟨u,v,this.trans h1,h2,h3⟩
   have hpos:0<len * sz:=Nat.mul_pos h0 hz
   obtain⟨_,_,_,hc0,_⟩:=at0 0 hpos
   obtain⟨c,T,fz,hb,_,hspot⟩:=qsw hc0
   have hin:∀ k,k<len * sz→∃ (u:AV) (v:Value),(flat xs)[k]? = some u∧c.toList[a.off+k]? = some v∧Rel (gW W) u v:=by
    intro k hk
    obtain⟨u,v,h1,h2,h3⟩:=at0 k hk
    obtain⟨c',T',fz',hb',hv,_⟩:=qsw h2
    rw [hb] at hb'
    cases hb'
    exact⟨u,v,h1,by simpa using hv,h3⟩
   obtain⟨b,off,spot⟩:=a
   have hs:=hspot rfl
   simp only at hs hb hin
   subst hs
   rw [← hxl]
   refine .sl sz xs none b off cap c.toList (q2s hb) (fun y hy=>(hmem y hy).2) ?_ ?_ ?_ (by omega)
   ·obtain⟨_,_,_,hv,_⟩:=hin (len * sz - 1) (by omega)
    have:=(List.getElem?_eq_some_iff.1 hv).1
    omega
   ·intro i x y hx' hy'
    have hi:i<len * sz:=by rw [← hfl];exact (List.getElem?_eq_some_iff.1 hx').1
    obtain⟨u,v,h1,h2,h3⟩:=hin i hi
    rw [hx'] at h1
    rw [hy'] at h2
    cases h1
    cases h2
    exact h3
   ·intro t ht
    simp at ht
def fieldsOf (P:Program) (t:TypeId):Array Field:=match P.underlying t with|some (.struct fs)=>fs | _=> #[]
theorem qu6 {P:Program} {t:TypeId} {As:List (Option TypeDesc×(AV→Prop))} (hu:P.underlying t=some (.struct (fieldsOf P t))) (hone:oneCellFields P (fieldsOf P t)=true) (hC:P.cellsOf t=(fieldsOf P t).size)
  (hF:(fieldsOf P t).toList.map (fun f=>P.underlying f.type)=As.map Prod.fst) (hA:∀ p∈As,(∀ u,P.underlying u=p.1→Opn P u p.2)∧One p.2):Opn P t (IsAg (As.map Prod.snd)):=by
 have hl:As.length=(fieldsOf P t).size:=by have:=congrArg List.length hF;simpa using this.symm
 refine q27 hu hone hC (by simpa using hl) fun i f S hf hS=>?_
 obtain⟨p,hp,rfl⟩:∃ p,As[i]? = some p∧p.2=S:=by simpa using hS
 have h1:((fieldsOf P t).toList.map (fun f=>P.underlying f.type))[i]? = some (P.underlying f.type):=by simp [hf]
 rw [hF,List.getElem?_map,hp] at h1
 obtain⟨a,b⟩:=hA p (List.mem_of_getElem? hp)
 exact⟨a _ (by simpa using h1.symm),b⟩
theorem qss {α : Type} {g : α→AV}:∀ {xs:List AV},(∀ x∈xs,∃ r,x=g r)→∃ rs:List α,xs=rs.map g
 | [],_=>⟨[],rfl⟩
 |x::xs,h=>by
  obtain⟨r,rfl⟩:=h x (by simp)
  obtain⟨rs,rfl⟩:=qss (xs:=xs) fun y hy=>h y (by simp [hy])
  exact⟨r::rs,rfl⟩
theorem q19 {H:Type} {enc:TypeId×Value→H} {P:Program} {W:World} {r:Reach} {b0:Nat} {t e:TypeId} {S:AV→Prop} {v:Value} {d:DataW H} {ps:List MemPlace} (hu:P.underlying t=some (.slice e)) (hO:Opn P t S) (h1:One S) (hval:Value.okWide P W r b0 t v) (hd:DataW.Trod enc P W 0 (fun _=>true) true t v d ps) :
  ∃ a,S a∧Rel (gW W) a v:=by
 obtain⟨a,len,cap,rfl⟩:=okWide_slice hu hval
 obtain⟨fuel,hf⟩:=hd
 obtain⟨y,hy,hr⟩:=hO H enc W fuel _ _ hf
 rw [h1 y hy] at hr
 exact⟨y,hy,RelK.one (by simpa [Value.cells] using hr)⟩
theorem q3p {G:Gh} (s:ByteArray):Rel G (Sv s.data.toList) (.string s):=by rw [q0d];exact .v _
theorem qyl {H:Type} {enc:TypeId×Value→H} {P:Program} {W W':World} {t:TypeId} (hl:laidOutB P=true) (hr:P.readableRec t=true) (hrow:t<P.types.size) {sp:Nat→Bool} {v:Value} {d:DataW H} {ps:List MemPlace}
  (hd:DataW.Trod enc P W 0 (fun _=>true) true t v d ps) (hb:Below W.heap.size W W') (hlt:∀ p∈ps,p.block<W.heap.size) (hs:∀ p∈ps,sp p.block=true):DataW.Trod enc P W' 0 sp true t v d ps:=
 Go.WideElems.Trod_stays hl hr hrow hd (fun p hp=>hb.same (hlt p hp)) hs
end Go.Av
namespace Go.Proofs.YtmjmdjbdoiddeaaGreatDoor
open Go Go.Av Go.RowKit Go.Proofs Go.Pl
theorem qzg:Opn Tryz.prog 55 fun a=>∃ r:zp,a=wj r:=by
 intro H enc W fuel cs x h
 obtain⟨a,⟨vs,rfl,hl,hv⟩,hr⟩:=qu6 (As:=[(some (.int .i64),IsI .i64),(some .string,IsS),(some .string,IsS),(some (.int .i64),IsI .i64),(some (.int .i64),IsI .i64)]) (by kernel_rfl) (by kernel_rfl) (by kernel_rfl) (by kernel_rfl)
  (List.forall_mem_cons.2 ⟨⟨fun _ h=>qu7 h,qu5 _⟩,List.forall_mem_cons.2 ⟨⟨fun _ h=>q0b h,q0a⟩,List.forall_mem_cons.2 ⟨⟨fun _ h=>q0b h,q0a⟩,List.forall_mem_cons.2 ⟨⟨fun _ h=>qu7 h,qu5 _⟩,List.forall_mem_cons.2 ⟨⟨fun _ h=>qu7 h,qu5 _⟩,nofun⟩⟩⟩⟩⟩) H enc W fuel cs x h
 match vs,hl with
 | [v0,v1,v2,v3,v4],_=>
  obtain⟨n0,rfl,_⟩:=hv 0 _ _ rfl rfl
  obtain⟨l1,rfl,_⟩:=hv 1 _ _ rfl rfl
  obtain⟨l2,rfl,_⟩:=hv 2 _ _ rfl rfl
  obtain⟨n3,rfl,_⟩:=hv 3 _ _ rfl rfl
  obtain⟨n4,rfl,_⟩:=hv 4 _ _ rfl rfl
  exact⟨_,⟨⟨n0,l1,l2,n3,n4⟩,rfl⟩,hr⟩
theorem qxh {t:TypeId} (hu:Tryz.prog.underlying t=some (.slice 55)):Opn Tryz.prog t fun a=>∃ xs:List zp,a = .sl 5 (xs.map wj) none∧xs.length≤maxLen:=by
 intro H enc W fuel cs x h
 obtain⟨a,⟨xs,rfl,hl,hx⟩,hr⟩:=q28 (sz:=5) hu (by kernel_rfl) (by decide) qzg H enc W fuel cs x h
 obtain⟨rs,rfl⟩:=qss hx
 exact⟨_,⟨rs,rfl,by simpa using hl⟩,hr⟩
theorem qxe:One fun a=>∃ xs:List zp,a = .sl 5 (xs.map wj) none∧xs.length≤maxLen:=by rintro _ ⟨xs,rfl,_⟩;rfl
structure vi where
 kind:Int
 id:Int
 fields:List FldV
def q2u (k:Int):qd:=if k=1 then [32,114,101,112,108,97,99,101,32] else if k=2 then [32,100,101,108,101,116,101,32] else if k=3 then [32,105,110,115,101,114,116,32] else []
def qfl (e:vi):qd:=if 1≤e.kind∧e.kind≤3 then q2u e.kind++Lib.itoa e.id else []
end Go.Proofs.YtmjmdjbdoiddeaaGreatDoor
namespace Go.Av
open Go Go.RowKit
section
variable {E : Env} {N : Nat} {s : AS}
variable {ops : Array Oper} {K : AS → Prop} {rest : List Oper} {d : Option Tmp} {T : TypeId} {p : String} {af : Array Edge}
theorem kp {x y:Operand} {t t':TypeId} {m n:List UInt8} (hx:qh N s x=Sv m) (hy:qh N s y=Sv n) (hl:m.length+n.length<9223372036854775808)
  (h:AQ E N ops rest K (s.put d (Sv (m++n)))):AQ E N ops (⟨d,.binOp .add t x y t',T,p,af,none⟩::rest) K s:=
 qab _ rfl nofun (fun a w he=>by
  simp only [execOp,he _ _ hx,he _ _ hy,eqGuard_at_string,binOp,Op.stringOp,qaa,qm7,IntKind.max_i64]
  rw [if_neg (by omega)]
  simp) h
theorem zg {t:TypeId} {x:Operand} {f off sz:Nat} {agg:Bool} {o ver q:Nat} (hx:qh N s x = .bx o ver q) (hf:y8 E.P t f=some (off,sz,agg)) (hsz:Nat.beq sz 0=false)
  (h:AQ E N ops rest K (s.put d (.bx o ver (q+off)))):AQ E N ops (⟨d,.fieldAddr t x f,T,p,af,none⟩::rest) K s:=by
 refine qdn rfl nofun fun B0 w0 G a w _ hI=>?_
 have he:=hI.eval_of hx
 generalize hv:a.eval x=v at he
 cases he with
 |bx _ _ _ b hn hv' hb=>
  have hs:sz≠0:=fun e=>by subst e;simp at hsz
  exact⟨_,_,fun w' _=>by simp only [execOp,hv];simp [qds hf hs],.bx o ver _ b hn hv' hb,h⟩
theorem zh {t:TypeId} {x:Operand} {f off sz:Nat} {agg:Bool} {cs:List AV} (hx:qh N s x = .pp cs) (hf:y8 E.P t f=some (off,sz,agg)) (hsz:Nat.beq sz 0=false) (hle:Nat.ble off cs.length=true)
  (h:AQ E N ops rest K (s.put d (.pp (cs.drop off)))):AQ E N ops (⟨d,.fieldAddr t x f,T,p,af,none⟩::rest) K s:=by
 refine qdn rfl nofun fun B0 w0 G a w _ hI=>?_
 have he:=hI.eval_of hx
 generalize hv:a.eval x=v at he
 cases he with
 |pp _ b q pub hp hlen hrel=>
  have hs:sz≠0:=fun e=>by subst e;simp at hsz
  have ho:off≤cs.length:=Nat.le_of_ble_eq_true hle
  refine⟨.pointer (some ⟨b,q+off,none⟩),_,fun w' _=>by simp only [execOp,hv];simp [qds hf hs],?_,h⟩
  exact .pp _ b (q+off) pub hp (by simp;omega) fun i x y h1 h2=>hrel (off+i) x y (by simpa using h1) (by rw [← h2];congr 1;omega)
theorem j3 {x:Operand} {t:TypeId} {sz:Nat} {agg:Bool} {cs:List AV} {r:AV} (hx:qh N s x = .pp cs) (ht:tyOf E.P t=some (sz,agg)) (hr:wq sz agg 0 cs=some r)
  (h:AQ E N ops rest K (s.put d r)):AQ E N ops (⟨d,.load t x,T,p,af,none⟩::rest) K s:=by
 refine qdn rfl nofun fun B0 w0 G a w _ hI=>?_
 have he:=hI.eval_of hx
 generalize hv:a.eval x=v at he
 cases he with
 |pp _ b off pub hp hlen hrel=>
  obtain⟨c,T',fz,hc,hcc⟩:=hI.agree.pub b pub hp
  have hlt:b<w.heap.size:=hI.agree.pub_lt hp
  have key:∀ w',Below w.heap.size w w'→∃ v,(loadVar t ⟨b,off,none⟩).run E.P w' = .ok v w'∧Rel G r v:=fun w' hw'=>by
   have h4':w'.heap[b]? = some (.cells c T' fz):=by rw [hw'.block _ hlt];exact hc
   exact qaq (w:=w') (G:=G) (b:=b) (off:=off) ht (fun i x hx _=>by
    have hi:=lt_of_getElem? hx
    have hy:pub[off+i]? = some (pub[off+i]'(by omega)):=List.getElem?_eq_getElem (by omega)
    refine⟨_,?_,hrel i x _ hx hy⟩
    simp [World.cell?,h4',hcc _ _ hy]) hr
  have hg:∀ w',Below w.heap.size w w'→∀ j,j<cs.length→w'.cell? ⟨b,off+j,none⟩=some (pub.getD (off+j) undef):=fun w' hw' j hj=>by
   have h4':w'.heap[b]? = some (.cells c T' fz):=by rw [hw'.block _ hlt];exact hc
   have hlt2:off+j<pub.length:=by omega
   have hy:pub[off+j]? = some (pub.getD (off+j) undef):=by simp [List.getD,hlt2]
   simp [World.cell?,h4',hcc _ _ hy]
  have hsame:∀ w',Below w.heap.size w w'→∀ v,(loadVar t ⟨b,off,none⟩).run E.P w = .ok v w→(loadVar t ⟨b,off,none⟩).run E.P w' = .ok v w':=fun w' hw' v hr1=>by
   obtain⟨i1,i2⟩:=xg ht w
   obtain⟨j1,j2⟩:=xg ht w'
   obtain⟨v',h1',_⟩:=key w' hw'
   rw [h1']
   congr 1
   cases agg with
   |false=>
    simp only [wq,cond_false] at hr
    have h0:=lt_of_getElem? hr
    have e1:=hg w (Below.refl _ _) 0 h0
    have e2:=hg w' hw' 0 h0
    rw [Nat.add_zero] at e1 e2
    simp [loadVar,i2,run_load,e1] at hr1
    simp [loadVar,j2,run_load,e2] at h1'
    rw [← h1',hr1]
   |true=>
    simp only [wq,cond_true] at hr
    cases hb2:Nat.ble (0+sz) cs.length with
    |false=>rw [hb2] at hr;simp at hr
    |true=>
     have hle:0+sz≤cs.length:=Nat.le_of_ble_eq_true hb2
     have l1:=run_loadCells (P:=E.P) (w:=w) ⟨b,off,none⟩ sz (fun j=>pub.getD (off+j) undef) (fun j hj=>by rw [Addr.add_lit];exact hg w (Below.refl _ _) j (by omega))
     have l2:=run_loadCells (P:=E.P) (w:=w') ⟨b,off,none⟩ sz (fun j=>pub.getD (off+j) undef) (fun j hj=>by rw [Addr.add_lit];exact hg w' hw' j (by omega))
     simp [loadVar,i1,i2,l1] at hr1
     simp [loadVar,j1,j2,l2] at h1'
     rw [← h1',hr1]
  obtain⟨v,hrun,hR⟩:=key w (Below.refl _ _)
  exact⟨v,r,fun w' hw'=>by simp only [execOp,hv,Instr.loadAt,Instr.sureAddr];simp [hsame w' hw' v hrun],hR,h⟩
theorem w9 {x y:Operand} {t t':TypeId} {k:IntKind} {m n r:Int} (hx:qh N s x = .v (.int k m)) (hy:qh N s y = .v (.int k n)) (hr:k.wrap (m - n)=r)
  (h:AQ E N ops rest K (s.put d (.v (.int k r)))):AQ E N ops (⟨d,.binOp .sub t x y t',T,p,af,none⟩::rest) K s:=
 qab _ rfl nofun (fun a w he=>by rw [← hr];simp [execOp,he _ _ hx,he _ _ hy,eqGuard_at_int,binOp,Op.intArith]) h
theorem wb {x y z:Operand} {t:TypeId} {k k':IntKind} {l:List UInt8} {i j:Nat} (hx:qh N s x=Sv l) (hy:qh N s y = .v (.int k' (i:Int))) (hz:qh N s z = .v (.int k (j:Int))) (hu:E.P.underlying t=some .string) (h1:i≤j) (h2:j≤l.length)
  (h:AQ E N ops rest K (s.put d (Sv ((l.take j).drop i)))):AQ E N ops (⟨d,.slice t x (some y) (some z) none,T,p,af,none⟩::rest) K s:=
 qj0 (i:=i) (j:=j) hx hu ⟨_,hy⟩ ⟨_,hz⟩ (by omega) (by omega) (by omega) (by simpa using h)
theorem v8 {x:Operand} {ts:Array TypeId} {t0 e:TypeId} {v:AV} {n:Nat} (hx:qh N s x=v) (hl:lenA v=some n) (ht:ts[0]? = some t0) (hu:E.P.underlying t0=some (.slice e))
  (h:AQ E N ops rest K (s.put d (Iv n))):AQ E N ops (⟨d,.call ⟨.builtin .len,#[x],ts⟩,T,p,af,none⟩::rest) K s:=by
 refine qdn rfl nofun fun B0 w0 G a w _ hI=>?_
 have he:=hI.eval_of hx
 have key:∃ b c,a.eval x = .slice b n c:=by
  generalize a.eval x=u at he
  cases he <;> simp [lenA] at hl
  case v y=>
   cases u <;> simp at hl
   subst hl
   exact⟨_,_,rfl⟩
  case sl0=>subst hl;exact⟨_,_,rfl⟩
  case sl=>subst hl;exact⟨_,_,rfl⟩
  case os=>subst hl;exact⟨_,_,rfl⟩
 obtain⟨b,c,hv⟩:=key
 refine⟨.int .i64 n,Iv n,fun w' _=>?_,.v _,h⟩
 generalize a.eval = ρ at hv
 simp [execOp,resolve,invoke,builtin,Builtin.len_,hv,ht,run_underlying hu,goInt]
theorem jm {x:Operand} {t:TypeId} {sz:Nat} {agg:Bool} {st loc ext new:List AObj} {k ver off:Nat} {T':TypeId} {cs:List AV} {r:AV} (hs:s.st=((st++loc)++ext)++new) (hx:qh N s x = .bx (st.length+k) ver off) (ho:loc[k]? = some (.cells ver T' cs)) (ht:tyOf E.P t=some (sz,agg)) (hr:wq sz agg off cs=some r)
  (h:AQ E N ops rest K (s.put d r)):AQ E N ops (⟨d,.load t x,T,p,af,none⟩::rest) K s:=
 qk0 hx (by rw [hs];exact qiz ho) ht hr h
end
end Go.Av
namespace Go.Av
open Go Go.RowKit
section
variable {B0 : Nat} {w0 : World} {G : Gh} {st : List AObj} {w : World}
theorem zd.pubOb (h:zd B0 w0 G st w) {o ver:Nat} {T:TypeId} {cs:List AV} (ho:st[o]? = some (.cells ver T cs)) :
  ∃ vs:List Value,G.le (G.publish (G.ob o).blk vs)∧zd B0 w0 (G.publish (G.ob o).blk vs) (st.set o .dead) w∧(G.ob o).ver=ver∧(G.publish (G.ob o).blk vs).pub (G.ob o).blk=some vs∧cs.length=vs.length ∧
   ∀ (i:Nat) (x:AV) (y:Value),cs[i]? = some x→vs[i]? = some y→Rel (G.publish (G.ob o).blk vs) x y:=by
 obtain⟨h0,h1,h2,h3,c,h4,h5,h6⟩:=h.ob o _ ho
 have hle:G.le (G.publish (G.ob o).blk c.toList):=G.le_publish _ _ [] [] (.inl h3)
 refine⟨c.toList,hle,?_,h1,by simp [Gh.publish],by simpa using h5,fun i x y hx hy=>(h6 i x y hx (by simpa using hy)).mono hle⟩
 have key:∀ (k:Nat) (x:AObj),(st.set o .dead)[k]? = some x→x = .dead∨(k≠o∧st[k]? = some x):=fun k x hx=>by
  rcases getElem?_set' _ _ _ _ _ hx with⟨_,e⟩|e
  ·exact .inl e
  ·exact .inr e
 refine⟨h.below,h.hB,by simp [h.n,Gh.publish],fun b vs hb=>?_,fun k x hx=>?_,fun k k' x x' hne hx hx' hl hl'=>?_⟩
 ·simp only [Gh.publish] at hb
  by_cases e:b=(G.ob o).blk
  ·rw [if_pos e] at hb
   cases hb
   subst e
   exact⟨c,T,(0,0),h4,fun i y hy=>by simpa using hy⟩
  ·rw [if_neg e] at hb
   exact h.pub b vs hb
 ·rcases key k x hx with rfl | ⟨hk,hx⟩
  ·trivial
  ·refine (h.ob k x hx).mono hle rfl (fun hl=>?_) (fun _=>rfl)
   have:=h.sep k o x _ hk hx ho hl trivial
   simp [Gh.publish,this]
 ·rcases key k x hx with rfl | ⟨hk,hx⟩
  ·exact hl.elim
  ·rcases key k' x' hx' with rfl | ⟨hk',hx'⟩
   ·exact hl'.elim
   ·exact h.sep k k' x x' hne hx hx' hl hl'
end
section
variable {E : Env} {rd : Option Nat} {N : Nat} {ops : Array Oper} {K : AS → Prop} {s : AS} {rest : List Oper} {d : Option Tmp} {T : TypeId} {p : String} {af : Array Edge}
theorem Inv.pub {B0:Nat} {w0:World} {G:Gh} {a:Act} {w:World} (h:Inv B0 w0 N G s a w) {i o ver:Nat} {T':TypeId} {cs:List AV} (hi:s.t i = .bx o ver 0) (ho:s.st[o]? = some (.cells ver T' cs)) :
  ∃ G',G.le G'∧Inv B0 w0 N G' ⟨Av.put s.t i (.pp cs),s.st.set o .dead,s.df⟩ a w:=by
 obtain⟨vs,hle,hA,hv,hp,hl,hr⟩:=h.agree.pubOb ho
 refine⟨_,hle,hA,h.defers_mono hle,h.size,fun j y hy=>?_⟩
 have hj:=h.tmps j y hy
 by_cases e:j=i
 ·subst e
  simp only [x3]
  rw [hi] at hj
  cases hj with
  |bx _ _ _ b hn hv' hb=>
   have hb:=hb hv
   subst hb
   exact .pp cs _ 0 vs hp (by omega) fun k x y hx hy=>hr k x y hx (by simpa using hy)
 ·simp only
  rw [y3 _ _ _ _ e]
  exact hj.mono hle
theorem zr {x y:Operand} {t:TypeId} {sz:Nat} {agg:Bool} {st loc loc' ext new:List AObj} {k ver off:Nat} {T':TypeId} {cs xs:List AV} {r:AV} (hs:s.st=((st++loc)++ext)++new) (hx:qh N s x = .bx (st.length+k) ver off) (hy:qh N s y=r) (ho:loc[k]? = some (.cells ver T' cs)) (ht:tyOf E.P t=some (sz,agg))
  (hok:r.okc=true) (hc:r.cells=xs) (hsz:Nat.beq xs.length sz=true) (h1:xv xs=true) (hfit:Nat.ble (off+sz) cs.length=true) (hl:loc'=loc.set k (.cells ver T' (yr cs off xs)))
  (h:AOps E rd N ops rest K (AS.put ⟨s.t,((st++loc')++ext)++new,s.df⟩ d (.v undef))):AOps E rd N ops (⟨d,.store t x y,T,p,af,none⟩::rest) K s:=by
 have hk:=lt_of_getElem? ho
 exact qd6 hx hy (by rw [hs];exact qiz ho) ht hok hc hsz h1 hfit (by rw [hs,qtl _ hk,← hl];exact h)
end
theorem qq6 {α : Type} (l:List α) (a : α):(l++[a]).length=l.length+1:=by simp
theorem qs5 {α : Type} (l:List α) (a : α):Iv ((l.length:Int)+1)=Iv ((l++[a]).length:Nat):=by rw [qq6];rfl
theorem qwb {E:Env} {rd:Option Nat} {N:Nat} {c:Code} {Q:Exit→AS→Prop} {s:AS} {α : Type} (xs:List α) (I:List α→AS→Prop) (h0:I [] s) (hend:∀ s,I xs s→AWp E rd N c (qop (fun _=>False) Q) s)
  (hstep:∀ pre a rest s,xs=pre++a::rest→I pre s→AWp E rd N c (qop (fun s'=>I (pre++[a]) s') Q) s):AWp E rd N (.loop c) Q s:=by
 refine xk (fun (x:List α×List α) s=>xs=x.1++x.2∧I x.1 s) (fun x=>x.2.length) ([],xs) ⟨rfl,h0⟩ ?_
 rintro⟨pre,rest⟩ s ⟨hx,hi⟩
 cases rest with
 |nil=>
  simp only [List.append_nil] at hx
  subst hx
  refine (hend s hi).mono fun e s' h=>?_
  cases e with
  |normal=>exact h.elim
  | _=>exact h
 |cons a rest=>
  refine (hstep pre a rest s hx hi).mono fun e s' h=>?_
  cases e with
  |normal=>exact⟨(pre++[a],rest),⟨by rw [hx];simp,h⟩,by simp⟩
  | _=>exact h
end Go.Av
namespace Go.Pl
open Go Go.Proofs
abbrev Fld:=qd×qd
def qo6 (s:qd):Prop:=∀ c∈s,xc c
instance (s:qd):Decidable (qo6 s):=inferInstanceAs (Decidable (∀ c∈s,xc c))
def qra (s:qd):qd:=if qo6 s∨s.head? = some 46 then 46::s else s
def qpx (key p:qd):qd:=key++[58]++if p=[] then [] else [32]++p
def qga (f:Fld):List qd:=qpx f.1 ((vl f.2).headD [])::(vl f.2).tail.map fun s=>[32]++qra s
def vh (ls:List qd):qd:=ls.flatMap fun s=>s++[10]
def qum (xs:List Fld):qd:=xs.flatMap fun f=>vh (qga f)
def qan (f:Fld):Int:=if ¬ yb f.1 then 5 else if 1000<f.2.length then 6 else 0
def ye (f:Fld):Prop:=yb f.1∧f.2.length≤1000
instance (f:Fld):Decidable (ye f):=inferInstanceAs (Decidable (_∧_))
theorem qjj (f:Fld):qan f=0↔ye f:=by
 unfold qan ye
 by_cases h:yb f.1
 ·by_cases h2:1000<f.2.length
  ·simp [h,h2]
  ·simp [h,h2];omega
 ·simp [h]
def xq (c:UInt8) (l:qd):qd:=if l.head? = some c then l.drop 1 else l
theorem qm3 (c:UInt8) (l:qd):Lib.trimPrefix l [c]=xq c l:=by
 unfold Lib.trimPrefix xq
 rw [qho]
 simp
def qar (l:qd) (r:List qd):qd:=xq 32 (vu l)++r.flatMap fun s=>[10]++xq 46 (s.drop 1)
def qkp (ls:List qd):Prop:=ls≠[]∧ql (ls.headD [])=4∧∀ s∈ls.tail,ql s=3
instance (ls:List qd):Decidable (qkp ls):=inferInstanceAs (Decidable (_∧_∧_))
def z5 (ls:List qd):Fld×Int:=
 if qkp ls then
  if 1000<(qar (ls.headD []) ls.tail).length then (([],[]),6) else ((z8 (ls.headD []),qar (ls.headD []) ls.tail),0)
 else (([],[]),2)
theorem qu8 (l:qd):vl l≠[]:=by
 by_cases h:10∈l
 ·rw [qca h];simp
 ·rw [qcb h];simp
theorem qlz (l:qd):∀ x∈vl l,10∉x:=fun x hx=>(qhp l.length l (Nat.le_refl _) x hx).2
theorem qy3 (l:qd):(vl l).headD []∈vl l:=by
 have h:=qu8 l
 cases e:vl l with
 |nil=>exact absurd e h
 |cons a r=>simp
theorem qvj {s:qd} (h:10∉s):10∉qra s:=by
 unfold qra
 split
 ·simp [h]
 ·exact h
theorem qln {k:qd} (h:yb k):∃ c,k.head? = some c∧¬ xc c∧c≠35:=by
 obtain⟨h1,h2,h3,h4,h5,h6⟩:=h
 cases k with
 |nil=>exact absurd rfl h1
 |cons a r=>exact⟨a,rfl,fun hb=>h3 ⟨a,rfl,hb⟩,fun e=>h4 (by simp [e])⟩
end Go.Pl
namespace Go.Av
open Go Go.RowKit
section
variable {E : Env} {rd : Option Nat} {N : Nat} {ops : Array Oper} {K : AS → Prop} {s : AS} {rest : List Oper} {d : Option Tmp} {T : TypeId} {p : String} {af : Array Edge}
theorem qck {t e:TypeId} {len sz:Nat} {agg:Bool} {parts:Array (Nat×Operand)} {zs cs:List AV} {st loc:List AObj} (hst:s.st=st++loc) (hu:E.P.underlying t=some (.slice e)) (ht:tyOf E.P e=some (sz,agg)) (hz:qdd E.P e len=some zs)
  (hf:qaz (fun i=>some (i * sz,sz)) zs (wh N s parts)=some cs) (hsz:Nat.ble (len * sz) 16777216=true)
  (h:AOps E rd N ops rest K (AS.put ⟨s.t,st++(loc++[.cells 0 e cs]),s.df⟩ d (.os (st.length+loc.length) 0 0 len len))):AOps E rd N ops (⟨d,.buildSlice t len parts,T,p,af,none⟩::rest) K s:=by
 refine q5 rfl (q6 nofun fun B0 w0 G a w _ hI=>?_)
 obtain⟨c',hrun,h2⟩:=qf3 (d:=d) (T:=T) (p:=p) (af:=af) hI hu ht hz hf hsz
 have hA:=hI.agree.newCells e c' cs h2.1 h2.2
 have hn:=hI.agree.n
 rw [hst] at hA hn
 simp only [List.append_assoc,List.length_append] at hA hn
 exact⟨_,_,_,_,_,hrun,G.le_new _ _ _ _,hA,.os _ _ _ _ _ _ (by simp [Gh.new,hn]) (Nat.zero_le _) (fun _=>by simp [Gh.new,hn]),h⟩
theorem zd.ownTip {B0:Nat} {w0:World} {G:Gh} {st:List AObj} {w:World} (h:zd B0 w0 G st w) {o sz len cap:Nat} {T:TypeId} {cs:List AV} {xs:List AV} (ho:st[o]? = some (.cells 0 T cs)) (hc:cs.length=cap * sz) (hlen:xs.length=len) (h0:0<len) (hle:len≤cap) (hcm:cap≤maxLen) (hw:∀ x∈xs,x.cells.length=sz) (hfl:flat xs=cs.take (len * sz)) :
  ∃ G',G.le G'∧zd B0 w0 G' (st.set o (.tip len sz T)) w∧Rel G' (.sl sz xs (some o)) (.slice (some ⟨(G.ob o).blk,0,none⟩) len cap):=by
 subst hlen
 have hon:=lt_of_getElem? ho
 obtain⟨g0,g1,g2,g3,c,g4,g5,g6⟩:=h.ob o _ ho
 have hle1:G.le (G.publish (G.ob o).blk (c.toList.take (xs.length * sz))):=G.le_publish _ _ [] [] (.inl g3)
 -- dead, published
 have key:∀ (k:Nat) (x:AObj),(st.set o .dead)[k]? = some x→x = .dead∨(k≠o∧st[k]? = some x):=fun k x hx=>by
  rcases getElem?_set' _ _ _ _ _ hx with⟨_,e⟩|e
  ·exact .inl e
  ·exact .inr e
 have hA1:zd B0 w0 (G.publish (G.ob o).blk (c.toList.take (xs.length * sz))) (st.set o .dead) w:=by
  refine⟨h.below,h.hB,by simp [h.n,Gh.publish],fun b vs hb=>?_,fun k x hx=>?_,fun k k' x x' hne hx hx' hl hl'=>?_⟩
  ·simp only [Gh.publish] at hb
   by_cases e:b=(G.ob o).blk
   ·rw [if_pos e] at hb
    cases hb
    subst e
    refine⟨c,T,(0,0),g4,fun i y hy=>?_⟩
    rw [List.getElem?_take] at hy
    split at hy
    ·simpa using hy
    ·simp at hy
   ·rw [if_neg e] at hb
    exact h.pub b vs hb
  ·rcases key k x hx with rfl | ⟨hk,hx⟩
   ·trivial
   ·refine (h.ob k x hx).mono hle1 rfl (fun hl=>?_) (fun _=>rfl)
    have:=h.sep k o x _ hk hx ho hl trivial
    simp [Gh.publish,this]
  ·rcases key k x hx with rfl | ⟨hk,hx⟩
   ·exact hl.elim
   ·rcases key k' x' hx' with rfl | ⟨hk',hx'⟩
    ·exact hl'.elim
    ·exact h.sep k k' x x' hne hx hx' hl hl'
 have hvl:(c.toList.take (xs.length * sz)).length=xs.length * sz:=by
  have:xs.length * sz≤cap * sz:=Nat.mul_le_mul_right _ hle
  simp
  omega
 obtain⟨hle2,hA2⟩:=hA1.setTip (t:=o) (n:=0) (n':=xs.length) (k:=(G.ob o).blk) (cap:=c.size) (sz:=sz) (T:=T) (c:=c) (vs:=c.toList.take (xs.length * sz)) (by simp [hon]) g0 g1 h0 g4 (by simp [Gh.publish]) hvl rfl g2 (fun k x hx hl=>by
  rcases key k x hx with rfl | ⟨hk,hx⟩
  ·exact hl.elim
  ·exact h.sep k o x _ hk hx ho hl trivial)
 rw [List.set_set] at hA2
 refine⟨_,hle1.trans hle2,hA2,?_⟩
 have hgn:o<G.n:=by rw [h.n];exact hon
 refine .sl sz xs (some o) (G.ob o).blk 0 cap (c.toList.take (xs.length * sz)) (by simp [Gh.setOb,Gh.publish]) hw (by rw [hfl,hvl];simp;omega) (fun i x y h1 h2=>?_) (fun t ht=>?_) (by omega)
 ·rw [hfl] at h1
  rw [Nat.zero_add] at h2
  rw [List.getElem?_take] at h1 h2
  split at h1
  ·rename_i hi
   rw [if_pos hi] at h2
   exact ((g6 i x y h1 (by simpa using h2)).mono hle1).mono hle2
  ·simp at h1
 ·simp only [Option.some.injEq] at ht
  subst ht
  refine⟨by simpa [Gh.setOb,Gh.publish] using hgn,by omega,by simp [Gh.setOb],fun _=>⟨by simp [Gh.setOb],rfl,by simp [Gh.setOb,← g5,hc],hcm,by omega⟩⟩
theorem Inv.osTip {B0:Nat} {w0:World} {G:Gh} {a:Act} {w:World} (h:Inv B0 w0 N G s a w) {i o sz len cap:Nat} {T':TypeId} {cs xs:List AV} (hi:s.t i = .os o 0 0 len cap) (ho:s.st[o]? = some (.cells 0 T' cs)) (hc:cs.length=cap * sz) (hlen:xs.length=len) (h0:0<len) (hle:len≤cap) (hcm:cap≤maxLen) (hw:∀ x∈xs,x.cells.length=sz) (hfl:flat xs=cs.take (len * sz)) :
  ∃ G',G.le G'∧Inv B0 w0 N G' ⟨Av.put s.t i (.sl sz xs (some o)),s.st.set o (.tip len sz T'),s.df⟩ a w:=by
 obtain⟨G',hG,hA,hR⟩:=h.agree.ownTip ho hc hlen h0 hle hcm hw hfl
 obtain⟨_,g1,_⟩:=h.agree.ob o _ ho
 refine⟨G',hG,hA,h.defers_mono hG,h.size,fun j y hy=>?_⟩
 have hj:=h.tmps j y hy
 by_cases e:j=i
 ·subst e
  simp only [x3]
  rw [hi] at hj
  cases hj with
  |os _ _ _ _ b _ hn hv hb=>
   have hb:=hb g1
   subst hb
   exact hR
 ·simp only
  rw [y3 _ _ _ _ e]
  exact hj.mono hG
theorem qty {l:List Oper} (i:Nat) {o sz len cap:Nat} {T':TypeId} {cs xs:List AV} (hi:s.t i = .os o 0 0 len cap) (ho:s.st[o]? = some (.cells 0 T' cs)) (hc:cs.length=cap * sz) (hlen:xs.length=len) (h0:0<len) (hle:len≤cap) (hcm:cap≤maxLen) (hw:∀ x∈xs,x.cells.length=sz) (hfl:flat xs=cs.take (len * sz))
  (h:AOps E rd N ops l K ⟨Av.put s.t i (.sl sz xs (some o)),s.st.set o (.tip len sz T'),s.df⟩):AOps E rd N ops l K s:=
 ⟨fun B0 w0 G a w hL hI Q hQ=>let ⟨G1,h1,h2⟩:=hI.osTip hi ho hc hlen h0 hle hcm hw hfl;h.run B0 w0 _ a w hL h2 Q fun G' s' a' w' hG k1 k2=>hQ G' s' a' w' (h1.trans hG) k1 k2⟩
theorem Inv.osPub {B0:Nat} {w0:World} {G:Gh} {a:Act} {w:World} (h:Inv B0 w0 N G s a w) {i o ver off sz len cap:Nat} {T':TypeId} {cs xs:List AV} (hi:s.t i = .os o ver off len cap) (ho:s.st[o]? = some (.cells ver T' cs)) (hlen:xs.length=len) (hle:len≤cap) (hw:∀ x∈xs,x.cells.length=sz) (hin:off+len * sz≤cs.length) (hfl:flat xs=(cs.drop off).take (len * sz)) :
  ∃ G',G.le G'∧Inv B0 w0 N G' ⟨Av.put s.t i (.sl sz xs none),s.st.set o .dead,s.df⟩ a w:=by
 obtain⟨vs,hle1,hA,hv,hp,hl,hr⟩:=h.agree.pubOb ho
 refine⟨_,hle1,hA,h.defers_mono hle1,h.size,fun j y hy=>?_⟩
 have hj:=h.tmps j y hy
 by_cases e:j=i
 ·subst e
  simp only [x3]
  rw [hi] at hj
  cases hj with
  |os _ _ _ _ b _ hn hv' hb=>
   have hb:=hb hv
   subst hb
   rw [← hlen]
   refine .sl sz xs none _ off cap vs hp hw (by rw [hfl];simp;omega) (fun k x y hx hy=>?_) (fun t ht=>by simp at ht) (by omega)
   rw [hfl,List.getElem?_take] at hx
   split at hx
   ·rw [List.getElem?_drop] at hx
    exact hr _ x y hx hy
   ·simp at hx
 ·simp only
  rw [y3 _ _ _ _ e]
  exact hj.mono hle1
theorem ql6 {P:Program} {t e:TypeId} {sz:Nat} {agg:Bool} (hu:P.underlying t=some (.slice e)) (ht:tyOf P e=some (sz,agg)) (a:Option Addr) (len cap:Nat) (lo hi:Option Value) (i j:Nat) (w:World)
  (hlo:match lo with|none=>i=0|some v=>∃ k,v = .int k (i:Int)) (hhi:match hi with|none=>j=len|some v=>(∃ k,v = .int k (j:Int))∧j≤cap) (h1:i≤j) :
  (Instr.slice t (.slice a len cap) lo hi none).run P w = .ok (.slice (if cap=i then a else a.map (·.add (i * sz))) (j - i) (cap - i)) w:=by
 have hs:=(xg ht w).1
 cases lo with
 |none=>
  simp only at hlo
  subst hlo
  cases hi with
  |none=>
   simp only at hhi
   subst hhi
   simp [Instr.slice,run_underlying hu,Instr.sliceBounds,hs]
  |some v=>
   obtain⟨⟨k,rfl⟩,h2⟩:=hhi
   simp [Instr.slice,run_underlying hu,Instr.sliceBounds,Instr.sliceBound,asIntOf,hs,h2]
 |some u=>
  obtain⟨k',rfl⟩:=hlo
  cases hi with
  |none=>
   simp only at hhi
   subst hhi
   simp [Instr.slice,run_underlying hu,Instr.sliceBounds,Instr.sliceBound,asIntOf,hs,h1]
  |some v=>
   obtain⟨⟨k,rfl⟩,h2⟩:=hhi
   simp [Instr.slice,run_underlying hu,Instr.sliceBounds,Instr.sliceBound,asIntOf,hs,h1,h2]
theorem ql4 {G:Gh} {sz:Nat} {xs:List AV} {tip:Option Nat} {a:Option Addr} {len cap:Nat} (h:Rel G (.sl sz xs tip) (.slice a len cap)) {i j:Nat} (h1:i≤j) (h2:j≤xs.length) :
  len=xs.length∧len≤cap∧Rel G (.sl sz ((xs.take j).drop i) none) (.slice (if cap=i then a else a.map (·.add (i * sz))) (j - i) (cap - i)):=by
 cases h with
 |sl0=>
  simp at h2
  subst h2
  have:i=0:=by omega
  subst this
  refine⟨rfl,Nat.zero_le _,?_⟩
  simp
  exact .sl0 sz none _ _ (by simp)
 |sl _ _ _ b off cap pub hp hw hlen hr ht hcap=>
  refine⟨rfl,hcap,?_⟩
  have hl:((xs.take j).drop i).length=j - i:=by simp;omega
  by_cases hji:j=i
  ·subst hji
   have e:(xs.take j).drop j=[]:=List.length_eq_zero_iff.1 (by rw [hl];omega)
   rw [e,Nat.sub_self]
   exact .sl0 sz none _ _ (by simp)
  ·have hne:cap≠i:=by omega
   rw [if_neg hne]
   simp only [Option.map_some]
   have hadd:Addr.add ⟨b,off,none⟩ (i * sz)=⟨b,off+i * sz,none⟩:=Addr.add_lit ..
   rw [hadd,← hl]
   have hw':∀ x∈(xs.take j).drop i,x.cells.length=sz:=fun x hx=>hw x (List.mem_of_mem_take (List.mem_of_mem_drop hx))
   have hfx:(flat xs).length=xs.length * sz:=xi hw
   have hsplit:flat xs=flat (xs.take i)++flat ((xs.take j).drop i)++flat (xs.drop j):=by
    have e:xs.take i++(xs.take j).drop i=xs.take j:=by
     conv=>rhs;rw [← List.take_append_drop i (xs.take j),List.take_take,Nat.min_eq_left h1]
    rw [← qdo,← qdo,e,List.take_append_drop]
   have hti:(flat (xs.take i)).length=i * sz:=by
    rw [xi (fun x hx=>hw x (List.mem_of_mem_take hx)),List.length_take,Nat.min_eq_left (by omega)]
   have hmid:(flat ((xs.take j).drop i)).length=(j - i) * sz:=by rw [xi hw',hl]
   refine .sl sz _ none b (off+i * sz) (cap - i) pub hp hw' ?_ (fun k x y hx hy=>?_) (fun t ht=>by simp at ht) (by rw [hl];omega)
   ·have:=congrArg List.length hsplit
    simp only [List.length_append] at this
    omega
   ·refine hr (i * sz+k) x y ?_ (by rw [← hy];congr 1;omega)
    have hk:=lt_of_getElem? hx
    rw [hsplit,List.append_assoc,List.getElem?_append_right (by omega),hti,Nat.add_sub_cancel_left,List.getElem?_append_left hk]
    exact hx
theorem qrt {x:Operand} {t e:TypeId} {lo hi:Option Operand} {sz:Nat} {agg:Bool} {xs ys:List AV} {tip:Option Nat} {i j:Nat} (hx:qh N s x = .sl sz xs tip) (hu:E.P.underlying t=some (.slice e)) (ht:tyOf E.P e=some (sz,agg))
  (hlo:match lo with|none=>i=0|some y=>∃ k,qh N s y = .v (.int k (i:Int))) (hhi:match hi with|none=>j=xs.length|some y=>∃ k,qh N s y = .v (.int k (j:Int))) (h1:i≤j) (h2:j≤xs.length) (hy:(xs.take j).drop i=ys)
  (h:AOps E rd N ops rest K (s.put d (.sl sz ys none))):AOps E rd N ops (⟨d,.slice t x lo hi none,T,p,af,none⟩::rest) K s:=by
 subst hy
 refine q5 rfl (q6 nofun fun B0 w0 G a w _ hI=>?_)
 have he:=hI.eval_of hx
 generalize hv:a.eval x=v at he
 have hsl:∃ b len cap,v = .slice b len cap:=by cases he <;> exact⟨_,_,_,rfl⟩
 obtain⟨b,len,cap,rfl⟩:=hsl
 obtain⟨hl,hlc,hr⟩:=ql4 he h1 h2
 refine⟨_,w,G,_,s.st,?_,.refl G,hI.agree,hr,h⟩
 have hrun:=ql6 hu ht b len cap (lo.map a.eval) (hi.map a.eval) i j w (by
  cases lo with
  |none=>exact hlo
  |some y=>obtain⟨k,hy⟩:=hlo;exact⟨k,hI.evalv hy⟩) (by
  cases hi with
  |none=>simp only at hhi;simp only [Option.map_none];omega
  |some y=>obtain⟨k,hy⟩:=hhi;exact⟨⟨k,hI.evalv hy⟩,by omega⟩) h1
 generalize a.eval = ρ at hv hrun
 simp only [execOp,hv]
 simp [Instr.sliceAt,run_underlying hu,hrun]
theorem zq {x y:Operand} {t e:TypeId} {sz:Nat} {agg:Bool} {xs ys:List AV} {tip:Option Nat} {k:IntKind} {i:Nat} (hx:qh N s x = .sl sz xs tip) (hy:qh N s y = .v (.int k (i:Int))) (hu:E.P.underlying t=some (.slice e)) (ht:tyOf E.P e=some (sz,agg)) (h1:i≤xs.length) (hz:xs.drop i=ys)
  (h:AOps E rd N ops rest K (s.put d (.sl sz ys none))):AOps E rd N ops (⟨d,.slice t x (some y) none none,T,p,af,none⟩::rest) K s:=
 qrt (i:=i) (j:=xs.length) hx hu ht ⟨k,hy⟩ rfl h1 (Nat.le_refl _) (by rw [List.take_length];exact hz) h
end
end Go.Av
namespace Go.Av
open Go Go.RowKit
structure Chg (N:Nat) (s s':AS):Prop where
 run:∀ (B0:Nat) (w0:World) (G:Gh) (a:Act) (w:World),Inv B0 w0 N G s a w→∃ G',G.le G'∧Inv B0 w0 N G' s' a w
theorem Chg.trans {N:Nat} {s s' s'':AS} (h:Chg N s s') (k:Chg N s' s''):Chg N s s'':=⟨fun B0 w0 G a w hI=>let ⟨G1,h1,h2⟩:=h.run B0 w0 G a w hI;let ⟨G2,k1,k2⟩:=k.run B0 w0 G1 a w h2;⟨G2,h1.trans k1,k2⟩⟩
end Go.Av
namespace Go.Proofs.YtmjmdjbdoiddeaaGreatDoor
open Go Go.Av Go.RowKit Go.Proofs Go.Pl
abbrev Ss (xs:List qd):AV:=.sl 1 (xs.map fun x=>Sv x) none
theorem qrh (l m:List UInt8) (st:List AObj):qp E 91 [Sv l,Sv m] st fun r st'=>r=Sv (Lib.trimPrefix l m)∧st'=st:=
 qak (vals:= #[.string ⟨l.toArray⟩,.string ⟨m.toArray⟩]) rfl fun _ _ w _ _=>(Tryz.strings_TrimPrefix ⟨l.toArray⟩ ⟨m.toArray⟩ w).mono fun _ _ ⟨h1,h2⟩=>⟨h1,qfu h2⟩
theorem qto (l:List UInt8) (c:UInt8) (st:List AObj):qp E 91 [Sv l,Sv [c]] st fun r st'=>r=Sv (xq c l)∧st'=st:=by
 rw [← qm3]
 exact qrh _ _ _
theorem qvi {B0:Nat} {w0:World} {G:Gh} {st:List AObj} {w:World} (hA:zd B0 w0 G st w) {xs:List qd} {tip:Option Nat} {v:Value} (h:Rel G (.sl 1 (xs.map fun x=>Sv x) tip) v) :
  (xs=[]∧∃ a c,v = .slice a 0 c)∨∃ b off cap,v = .slice (some ⟨b,off,none⟩) xs.length cap∧b<w.heap.size∧xs.length≤cap∧∀ (j:Nat) (x:qd),xs[j]? = some x→w.cell? ⟨b,off+j,none⟩=some (.string ⟨x.toArray⟩):=by
 generalize hq:xs.map (fun x=>Sv x)=q at h
 cases h with
 |sl0 sz tip base cap ht=>exact .inl ⟨by simpa using hq,base,cap,rfl⟩
 |sl _ _ _ b off cap pub hp hw hlen hr ht hcap=>
  subst hq
  obtain⟨c,T,fz,hc,hcc⟩:=hA.pub b pub hp
  refine .inr ⟨b,off,cap,by simp,hA.pub_lt hp,by simpa using hcap,fun j x hx=>?_⟩
  have hfl:flat (xs.map fun x=>Sv x)=xs.map fun x=>Sv x:=by
   clear hx hr hlen hw ht hcap
   induction xs with
   |nil=>rfl
   |cons a xs ih=>rw [List.map_cons,qdz,ih];rfl
  have hj:=lt_of_getElem? hx
  rw [hfl] at hlen
  simp only [List.length_map] at hlen
  have hy:pub[off+j]? = some (pub[off+j]'(by omega)):=List.getElem?_eq_getElem (by omega)
  have hrj:=hr j (Sv x) _ (by rw [hfl,List.getElem?_map,hx];rfl) hy
  generalize hz:pub[off+j]'(by omega)=z at hrj hy
  generalize hSx:Sv x=sx at hrj
  cases hrj <;> simp_all
  subst_vars
  simp [World.cell?,hc,hcc _ _ hy]
theorem qwx (xs:List qd) (tip:Option Nat) (sep:qd) (st:List AObj) (hN:xs.length≤140737488355328) (hl:(Lib.join xs sep).length≤140737488355328):qp E 56 [.sl 1 (xs.map fun x=>Sv x) tip,Sv sep] st fun r st'=>r=Sv (Lib.join xs sep)∧st'=st:=by
 refine⟨fun B0 w0 G vs w hL hA hR=>?_⟩
 have hs:vs.size=2:=by have:=hR.1;simpa using this.symm
 have e0:vs[0]? = some vs[0]:=by simp [hs]
 have e1:vs[1]? = some vs[1]:=by simp [hs]
 have h0:=hR.2 0 _ _ rfl e0
 have h1:=hR.2 1 _ _ rfl e1
 have hv1:vs[1] = .string ⟨sep.toArray⟩:=by generalize vs[1]=y at h1;cases h1;rfl
 have hvs:vs = #[vs[0],.string ⟨sep.toArray⟩]:=by
  apply Array.ext (by simp [hs])
  intro i g1 g2
  match i with
  | 0=>rfl
  | 1=>exact hv1
  |i+2=>simp [hs] at g1;omega
 rw [hvs]
 rcases qvi hA h0 with⟨hx,a,c,hv⟩ | ⟨b,off,cap,hv,hb,hcap,hcell⟩
 ·rw [hv]
  subst hx
  refine (Tryz.strings_Join_none a c ⟨sep.toArray⟩ w).mono ?_
  rintro e w' ⟨rfl,rfl⟩
  exact⟨_,G,Sv [],st,rfl,.refl G,hA,.v _,rfl,rfl⟩
 ·rw [hv]
  have hm:(xs.map fun l:qd=>(⟨l.toArray⟩:ByteArray)).map (·.data.toList)=xs:=by simp [List.map_map,Function.comp_def]
  have hc:=Tryz.strings_Join b off cap (xs.map fun l=>⟨l.toArray⟩) ⟨sep.toArray⟩ w (fun j x hx=>by
   rw [List.getElem?_map] at hx
   cases hq:xs[j]? with
   |none=>rw [hq] at hx;simp at hx
   |some y=>rw [hq] at hx;simp at hx;subst hx;exact hcell j y hq) hb (by simpa using hN) (by simpa using hcap) (by rw [hm];simpa using hl)
  rw [hm] at hc
  simp only [List.length_map] at hc
  refine hc.mono ?_
  rintro e w' ⟨rfl,hbw⟩
  exact⟨_,G,Sv _,st,rfl,.refl G,hA.fresh hbw,.v _,rfl,rfl⟩
def Weak (x r:AV):Prop:=∀ (G:Gh) (v:Value),Rel G x v→Rel G r v
theorem qmb (sz:Nat) (xs:List AV) (tip:Option Nat):Weak (.sl sz xs tip) (.sl sz xs none):=fun _ _ h=>qfo h
def errN (n:Int):AV:=if n=0 then .v .nilIface else .ifc 85 (Iv n)
theorem qng (n:Int):Pure (errN n):=by
 unfold errN
 split
 ·exact q7 _
 ·exact qg6 (q7 _)
theorem qsz {n:Int} (h:n≠0):errN n = .ifc 85 (Iv n):=if_neg h
theorem qjp (f:FldV) (st:List AObj) (hl:f.1.length<4294967281):qp E 92 [fldA f] st fun r st'=>r=errN (qan f)∧st'=st:=by
 refine zl (qng _) (qw Tryz.func92 rfl (Nat.le_of_ble_eq_true rfl) ?_)
 repeat' (first|apply q4|apply za|apply qn|apply qs|apply qo|(apply qz;(iterate 3 exact rfl))|(apply jf;exact rfl)|(apply qc;exact rfl;apply cd_n <;> intro h)|(apply qc;exact rfl;apply cd_d <;> intro h)|(apply zm;(iterate 3 exact rfl))|(apply qv;exact rfl;exact rfl)|(apply kz;(iterate 4 exact rfl))|(apply qt;(iterate 3 exact rfl))|(apply zj;(iterate 5 exact rfl))|apply zb|apply ze|(apply qx;exact Tryz.call28;exact quu _ _ hl))
 all_goals refine qm rfl (zv rfl) ⟨(?_:_=_),_,rfl⟩
 ·have e:qan f=5:=if_pos (by simp_all)
  rw [e];rfl
 ·have e:qan f=6:=(if_neg (by simp_all)).trans (if_pos (by omega))
  rw [e];rfl
 ·have e:qan f=0:=(if_neg (by simp_all)).trans (if_neg (by omega))
  rw [e];rfl
theorem qps (f:FldV) (st:List AObj) (hl:f.1.length<4294967281) (h:qan f=0):qp E 92 [fldA f] st fun r st'=>r = .v .nilIface∧st'=st:=by
 have:=qjp f st hl
 rw [h] at this
 exact this
theorem qpt (f:FldV) (st:List AObj) (hl:f.1.length<4294967281) (h:qan f≠0):qp E 92 [fldA f] st fun r st'=>r = .ifc 85 (Iv (qan f))∧st'=st:=by
 have:=qjp f st hl
 rw [qsz h] at this
 exact this
theorem q1o (xs:List qd):Pure (Ss xs):=qih xs
theorem qiq (a b:List qd):vh (a++b)=vh a++vh b:=by simp [vh]
end Go.Proofs.YtmjmdjbdoiddeaaGreatDoor
namespace Go.Av
open Go Go.RowKit
@[reducible] def qlv (K : Act → World → Prop) : Exit → Act → World → Prop
 | .normal,a,w=>K a w
 | _,_,_=>False
structure AZ (E:Env) (N:Nat) (ops:Array Oper) (fuel:Nat) (listed:Array Bool) (K:AS→Prop) (s:AS):Prop where
 run:∀ (B0:Nat) (w0:World) (G:Gh) (a:Act) (w:World),E.L B0 w0→Inv B0 w0 N G s a w→∀ K':Act→World→Prop,(∀ G' s' a' w',G.le G'→Inv B0 w0 N G' s' a' w'→K s'→K' a' w')→wpAnyIn (fw none) 0 E.P .any ops (qlv K') fuel listed a w
section
variable {E : Env} {N : Nat} {ops : Array Oper} {K : AS → Prop} {s : AS} {fuel : Nat} {listed : Array Bool}
theorem qv9 {id:Nat} {Q:Exit→AS→Prop} {n:Nat} (hm:E.P.follows .mixedOrders=true) (hn:ops.size=n) (h:AZ E N ops n (Array.replicate n false) (Q .normal) s):AWp E none N (.region id ops true) Q s:=by
 subst hn
 refine⟨fun B0 w0 G a w hL hI=>?_⟩
 have hBl:Below w.heap.size w { w with drawn:=w.drawn+1 }:=⟨rfl,rfl,rfl,Nat.le_refl _,fun _ _=>rfl⟩
 have hI2:Inv B0 w0 N G s a { w with drawn:=w.drawn+1 }:=⟨hI.agree.fresh hBl,hI.defers,hI.size,hI.tmps⟩
 have:=h.run B0 w0 G a _ hL hI2 (fun a' w'=>∃ (G':Gh) (s':AS),G.le G'∧Inv B0 w0 N G' s' a' w'∧Q .normal s') fun G' s' a' w' hG hI' hk=>⟨G',s',hG,hI',hk⟩
 refine wpIn_mono (wpIn_region_any hm this) fun e a' w' hq=>?_
 cases e with
 |normal=>exact hq
 | _=>exact hq.elim
theorem qsu (hr:Region.ready .any ops listed=[]) (h:K s):AZ E N ops fuel listed K s:=
 ⟨fun B0 w0 G a w hL hI K' hK=>wpAnyIn_done hr (hK G s a w (.refl G) hI h) fuel⟩
theorem qsd {F:Fence} {n:Nat} {P:Program} {o:Oper} {a:Act} {w:World} {next X Y:Act→World→Prop} (h:o.wpIn F n P a w next (qlv X)):o.wpIn F n P a w next (qlv Y):=by
 unfold Oper.wpIn at *
 refine⟨h.1,?_⟩
 have h:=h.2
 generalize (o.semAt F.round a.eval).run P w=r at *
 cases r with
 |ok x w'=>
  cases x <;> simp only [Oper.uponIn] at h ⊢
  case value u=>exact h
  case skip=>exact h
  case defer d=>exact h
  case enter f args=>
   refine⟨h.1,CallsIn.mono h.2 fun e w'' he=>?_⟩
   cases e with
   |returned u=>exact he
   |panicked c=>exact he.elim
   |outgrown=>exact absurd he (by simp [LetsOut])
  case row row args=>exact h
  case round l f tmps assign body=>
   refine⟨h.1,RoundIn.mono h.2 fun e w'' he=>?_⟩
   cases e with
   |returned u=>exact he
   |panicked c=>exact he.elim
   |outgrown=>exact absurd he (by simp [LetsOut])
 |halt x w'=>
  cases x <;> simp only [Oper.uponIn] at h ⊢
  case panic u=>exact h.elim
def qof (P:Nat→Prop):List Nat→Prop
 | []=>True
 |i::r=>P i∧qof P r
theorem qm5 {P:Nat→Prop}:∀ {l:List Nat},qof P l→∀ i∈l,P i
 | [],_,_,h=>by simp at h
 |j::l,h,i,hi=>by
  rcases List.mem_cons.1 hi with rfl|hi
  ·exact h.1
  ·exact qm5 h.2 i hi
theorem q2b (rs:List Nat) (hr:Region.ready .any ops listed=rs) (hne:Nat.blt 0 rs.length=true)
  (h:qof (fun i=>∃ o,ops[i]? = some o∧AOps E none N ops [o] (AZ E N ops fuel (listed.setIfInBounds i true) K) s) rs):AZ E N ops (fuel+1) listed K s:=by
 refine⟨fun B0 w0 G a w hL hI K' hK=>wpAnyIn_all hr (fun e=>by subst e;simp at hne) fun i hi=>?_⟩
 obtain⟨o,ho,h⟩:=qm5 h i hi
 have hrun:=h.run B0 w0 G a w hL hI (qlv fun a' w'=>wpAnyIn (fw none) 0 E.P .any ops (qlv K') fuel (listed.setIfInBounds i true) a' w') fun G' s' a' w' hG hI' hk=>hk.run B0 w0 G' a' w' hL hI' K' fun G2 s2 a2 w2 hG2 hI2 hk2=>hK G2 s2 a2 w2 (hG.trans hG2) hI2 hk2
 unfold wpOpIn
 rw [ho]
 simp only [wpListIn] at hrun ⊢
 split
 ·rename_i hw
  rw [if_pos hw] at hrun
  exact qsd hrun
 ·rename_i hw
  rw [if_neg hw] at hrun
  exact hrun
variable {d : Option Tmp} {T : TypeId} {p : String} {af : Array Edge}
end
end Go.Av
namespace Go.Proofs.YtmjmdjbdoiddeaaGreatDoor
open Go Go.Av Go.RowKit Go.Proofs Go.Pl
theorem qfj {l:qd}:ql l=4↔10∉l∧58∈l∧yb (z8 l):=by
 unfold ql
 by_cases h10:10∈l
 ·simp [h10]
 ·rw [if_neg h10]
  constructor
  ·intro h
   split at h
   ·simp at h
   ·split at h
    ·simp at h
    ·split at h
     ·simp at h
     ·split at h
      ·rename_i hk;exact⟨h10,hk.1,hk.2⟩
      ·simp at h
  ·rintro⟨_,h58,hk⟩
   obtain⟨c,hc,hb,h35⟩:=qln hk
   have hh:l.head? = some c:=by
    cases l with
    |nil=>simp at h58
    |cons a r=>
     unfold z8 at hc
     rw [List.takeWhile_cons] at hc
     split at hc
     ·simpa using hc
     ·simp at hc
   have hmem:c∈l:=List.mem_of_head? hh
   rw [if_neg (fun h'=>hb (h' c hmem)),if_neg (by rw [hh];simpa using h35),if_neg (fun ⟨d,hd,hd'⟩=>by rw [hh] at hd;cases hd;exact hb hd'),if_pos ⟨h58,hk⟩]
theorem quv (l:qd) (st:List AObj) (hl:l.length<4294967281) (h:ql l=4):qp E 90 [Sv l] st fun r st'=>r = .tu [Sv (z8 l),Sv (vu l),Bv true]∧st'=st:=by
 refine zl (qii _ _ _) (qw Tryz.func90 rfl (Nat.le_of_ble_eq_true rfl) ?_)
 have hc:Lib.cut l [58]=(z8 l,vu l,true):=by rw [qnb,if_pos (qfj.1 h).2.1]
 repeat' (first|apply q4|apply qn|apply qs|apply qu|apply qo|(apply zi;exact rfl;exact rfl)|(apply qz;(iterate 3 exact rfl))|(apply qc;exact rfl;apply wv;exact cAo)|apply zb|apply ze|(apply qx;exact Tryz.call51;exact qh8 _ _ hl)|(apply qx;exact Tryz.call50;exact qub _ _ _ hl))
 refine qm rfl (qec rfl) ⟨qri (?_:_=_),_,rfl⟩
 rw [hc]
theorem qr9 (l:qd) (st:List AObj) (hl:l.length<4294967281) (h:ql l≠4):qp E 90 [Sv l] st fun r st'=>r = .tu [Sv [],Sv [],Bv false]∧st'=st:=by
 refine zl (qii _ _ _) (qw Tryz.func90 rfl (Nat.le_of_ble_eq_true rfl) ?_)
 repeat' (first|apply q4|apply qn|apply qs|apply qu|apply qo|(apply qz;(iterate 3 exact rfl))|(apply qc;exact rfl;apply wo;exact cAo)|apply ze|(apply qx;exact Tryz.call51;exact qh8 _ _ hl))
 exact qm rfl (qec rfl) ⟨rfl,_,rfl⟩
def qdk (ls:List qd):AV:=.tu [fldA (z5 ls).1,errN (z5 ls).2]
theorem qrj (ls:List qd):Pure (qdk ls):=qeq fun x hx=>by
 simp only [List.mem_cons,List.not_mem_nil,or_false] at hx
 rcases hx with rfl|rfl
 ·exact qms fun x hx=>by
   simp only [List.mem_cons,List.not_mem_nil,or_false] at hx
   rcases hx with rfl|rfl <;> exact q7 _
 ·exact qng _
structure LsB (ls:List qd):Prop where
 len:ls.length<1000000
 val:∀ s∈ls,s.length<1000000
theorem qkk:∀ (r:List qd),(∀ s∈r,s.length<1000000)→(r.flatMap fun s=>[10]++xq 46 (s.drop 1)).length≤1000001 * r.length
 | [],_=>by simp
 |a::r,h=>by
  have ih:=qkk r fun s hs=>h s (by simp [hs])
  have ha:=h a (by simp)
  have ht:(xq 46 (a.drop 1)).length≤a.length:=by unfold xq;split <;> simp <;> omega
  simp only [List.flatMap_cons,List.length_append,List.length_cons,List.length_nil]
  omega
theorem qwy (v:qd) (r:List qd):Lib.join (v::r.map fun s=>xq 46 (s.drop 1)) [10]=v++r.flatMap fun s=>[10]++xq 46 (s.drop 1):=by
 rw [Lib.join_cons]
 unfold Lib.joinTail
 rw [List.map_map,List.flatMap_def]
 rfl
theorem q06 (xs:List qd) (tip:Option Nat) (sep v:qd) (st:List AObj) (h:Lib.join xs sep=v) (hN:xs.length≤140737488355328) (hl:v.length≤140737488355328):qp E 56 [.sl 1 (xs.map fun x=>Sv x) tip,Sv sep] st fun r st'=>r=Sv v∧st'=st:=by
 subst h
 exact qwx xs tip sep st hN hl
theorem qxo (l:qd) (st:List AObj) (hl:l.length<4294967281) (h:ql l=4):qp E 58 [Sv l] st fun r st'=>r = .tu [Sv (z8 l),Sv (vu l),Bv true]∧st'=st:=by
 have:=qqr l st hl
 have e:qcd l=(z8 l,vu l,true):=if_pos (qfj.1 h)
 rw [e] at this
 exact this
theorem qf9 {s:qd} (h:ql s=3):2≤s.length∧10∉s:=by
 have h10:10∉s:=fun h'=>by unfold ql at h;rw [if_pos h'] at h;simp at h
 refine⟨?_,h10⟩
 unfold ql at h
 rw [if_neg h10] at h
 split at h
 ·simp at h
 ·rename_i hb
  split at h
  ·simp at h
  ·split at h
   ·rename_i hbl
    obtain⟨c,hc,hcb⟩:=hbl
    match s,hc with
    | [a],hc=>
     simp at hc
     subst hc
     exact absurd (by simpa using hcb) hb
    |a::b::r,_=>simp
   ·split at h <;> simp at h
def qa1 (ls:List qd):AV:=.tu [fldA (z5 ls).1,Iv (z5 ls).2]
theorem ql2 (ls:List qd):Pure (qa1 ls):=qeq fun x hx=>by
 simp only [List.mem_cons,List.not_mem_nil,or_false] at hx
 rcases hx with rfl|rfl
 ·exact qms fun x hx=>by
   simp only [List.mem_cons,List.not_mem_nil,or_false] at hx
   rcases hx with rfl|rfl <;> exact q7 _
 ·exact q7 _
def accU (l:qd) (pre:List qd):qd:=xq 32 (vu l)++pre.flatMap fun s=>[10]++xq 46 (s.drop 1)
theorem qvx (l:qd) (pre:List qd) (a:qd):accU l (pre++[a])=(accU l pre++[10])++xq 46 (a.drop 1):=by
 unfold accU
 rw [List.flatMap_append]
 simp
theorem qyd (l:qd) (pre:List qd) (h:∀ s∈pre,s.length<1000000):(accU l pre).length≤l.length+1000001 * pre.length:=by
 have htr:(xq 32 (vu l)).length≤l.length:=by unfold xq vu;split <;> simp <;> omega
 have:=qkk pre h
 unfold accU
 rw [List.length_append]
 omega
theorem q0g (c:UInt8):((c.toNat:Nat):Int)=46↔c=46:=u8i c 46 (by omega)
theorem qg2 {α : Type} {P : α→Prop} {pre:List α} {a : α} (h:∀ x∈pre,P x) (ha:P a):∀ x∈pre++[a],P x:=fun x hx=>by
 rcases List.mem_append.1 hx with hx|hx
 ·exact h x hx
 ·simp at hx;subst hx;exact ha
end Go.Proofs.YtmjmdjbdoiddeaaGreatDoor
namespace Go.Pl
open Go Go.Proofs
structure LnV where
 no:Nat
 at':Nat
 text:qd
 ended : Bool
def x7 (k a:Nat) (l:qd):List LnV:=if h:l=[] then [] else⟨k,a,upto 10 l,decide (10∈l)⟩::x7 (k+1) (a+(upto 10 l).length+1) (past 10 l)
 termination_by l.length
 decreasing_by exact yz h
def lns (l:qd):List LnV:=x7 0 0 l
theorem qbw (k a:Nat):x7 k a []=[]:=by unfold x7;simp
theorem qco {k a:Nat} {l:qd} (h:l≠[]):x7 k a l=⟨k,a,upto 10 l,decide (10∈l)⟩::x7 (k+1) (a+(upto 10 l).length+1) (past 10 l):=by
 conv=>lhs;unfold x7
 rw [dif_neg h]
def whole (l:qd):Prop:=l=[]∨l.getLast? = some 10
theorem qvr {l:qd} (h:whole l) (hne:l≠[]):10∈l∧whole (past 10 l):=by
 have hl:l.getLast? = some 10:=h.resolve_left hne
 have h10:10∈l:=List.mem_of_getLast? hl
 refine⟨h10,?_⟩
 by_cases hp:past 10 l=[]
 ·exact .inl hp
 ·refine .inr ?_
  have e:=qbq h10
  rw [e] at hl
  rw [List.getLast?_append,List.getLast?_cons] at hl
  cases hg:(past 10 l).getLast? with
  |none=>exact absurd (List.getLast?_eq_none_iff.1 hg) hp
  |some c=>rw [hg] at hl;simpa using hl
theorem qmn:∀ (n:Nat) (d x:qd) (k a:Nat),d.length≤n→whole d→x7 k a (d++x)=x7 k a d++x7 (k+(x7 k a d).length) (a+d.length) x
 |n,d,x,k,a,hn,hw=>by
  by_cases hd:d=[]
  ·subst hd
   simp [qbw]
  ·obtain⟨h10,hw'⟩:=qvr hw hd
   have e:=qbq h10
   have hlt:=yz (c:=10) hd
   cases n with
   |zero=>omega
   |succ n=>
    have e2:d++x=upto 10 d++10::(past 10 d++x):=(congrArg (· ++ x) e).trans (by simp)
    have hu:upto 10 (d++x)=upto 10 d:=by rw [e2];exact qa3 _ (qej 10 d)
    have hp:past 10 (d++x)=past 10 d++x:=by rw [e2];exact qcp _ (qej 10 d)
    have hdl:d.length=(upto 10 d).length+1+(past 10 d).length:=by
     have:=congrArg List.length e
     simp at this
     omega
    rw [qco (l:=d++x) (by simp [hd]),qco hd,hu,hp,qmn n (past 10 d) x _ _ (by omega) hw']
    have h1:10∈d++x:=by simp [h10]
    simp only [h1,h10,List.cons_append,List.length_cons]
    congr 2
    have e3:∀ m:Nat,k+1+m=k+(m+1):=fun m=>by omega
    rw [e3]
    congr 1
    omega
theorem q1c {c:qd} (k a:Nat) (h:10∉c):x7 k a (c++[10])=[⟨k,a,c,true⟩]:=by
 rw [qco (by simp),qa3 [] h,qcp [] h,qbw]
 simp
theorem qy9 {c:qd} (k a:Nat) (h:10∉c) (hne:c≠[]):x7 k a c=[⟨k,a,c,false⟩]:=by
 rw [qco hne,qcs h]
 have:past 10 c=[]:=by
  unfold past
  rw [qcs h]
  simp
 rw [this,qbw]
 simp [h]
theorem qfm:∀ (n:Nat) (l:qd) (k a:Nat),l.length≤n→(x7 k a l).length≤l.length
 |n,l,k,a,hn=>by
  by_cases h:l=[]
  ·subst h;simp [qbw]
  ·have hlt:=yz (c:=10) h
   cases n with
   |zero=>omega
   |succ n=>
    rw [qco h,List.length_cons]
    have:=qfm n (past 10 l) (k+1) (a+(upto 10 l).length+1) (by omega)
    omega
theorem qnp:∀ (n:Nat) (l:qd) (k a:Nat),l.length≤n→(x7 k a l).map (fun x=>(x.text,x.ended))=kf l
 |n,l,k,a,hn=>by
  by_cases h:l=[]
  ·subst h;simp [qbw,yj]
  ·have hlt:=yz (c:=10) h
   cases n with
   |zero=>omega
   |succ n=>rw [qco h,y0 h,List.map_cons,qnp n _ _ _ (by omega)]
end Go.Pl
namespace Go.Proofs.YtmjmdjbdoiddeaaGreatDoor
open Go Go.Av Go.RowKit Go.Proofs Go.Pl
@[reducible] def lnA (x : LnV) : AV := .ag [Iv x.no, Iv x.at', Sv x.text, Bv x.ended]
@[reducible] def lnsA (xs : List LnV) : AV := .sl 4 (xs.map lnA) none
theorem qzo (xs:List LnV):Pure (lnsA xs):=qa9 fun x hx=>by
 simp only [List.mem_map] at hx
 obtain⟨f,_,rfl⟩:=hx
 intro y hy
 simp [AV.cells] at hy
 rcases hy with rfl|rfl|rfl|rfl <;> exact q7 _
set_option maxHeartbeats 4000000 in
theorem qvf (l:qd) (st:List AObj) (hl:l.length<100000000):qp E 32 [Sv l] st fun r st'=>r=lnsA (lns l)∧st'=st:=by
 refine zl (qzo _) (qw Tryz.func32 rfl (Nat.le_of_ble_eq_true rfl) ?_)
 repeat' (first|apply q4|apply za|apply qn|apply qs|apply qo)
 refine qk2 (i:=3) (sz:=4) (T':=101) rfl ?_
 refine qwb l (fun pre s=>∃ d c,pre=d++c∧whole d∧10∉c∧StE [(0,Sv l),(3,.sl 4 ((lns d).map lnA) (some (st.length+0))),(4,Iv d.length),(5,Iv pre.length)] st [.tip (lns d).length 4 101] s) ⟨[],[],rfl,.inl rfl,by simp,qtn ⟨rfl,?_,rfl,rfl,trivial⟩ ?_⟩ ?_ ?_
 ·rw [show lns []=[] from qbw 0 0];simp;rfl
 ·rw [show lns []=[] from qbw 0 0];show (st++[])++[AObj.tip 0 4 _]=_;simp
 ·rintro _ ⟨d,c,hdc,hw,hc,t,ext,rfl⟩
  have hll:l.length=d.length+c.length:=by rw [hdc];simp
  have hcnt:=qfm _ d 0 0 (Nat.le_refl _)
  have hcnt':(lns d).length≤d.length:=hcnt
  have hml:((lns d).map lnA).length=(lns d).length:=by simp
  have happ:lns l=lns d++x7 (lns d).length d.length c:=by
   unfold lns
   rw [hdc,qmn _ d c 0 0 (Nat.le_refl _) hw]
   simp
  have hfrom:l.drop d.length=c:=by rw [hdc];simp
  repeat' (first|apply q4|apply qn|apply qs|apply qu|apply qo|(apply qz;(iterate 3 exact rfl))|(apply qc;exact rfl;apply wv;exact cAo)|(apply qc;exact rfl;apply cd_d <;> intro h)|(apply zm;(iterate 3 exact rfl))|(apply je;(iterate 4 exact rfl))|(apply ka;(iterate 3 exact rfl);exact cAs)|(apply z9;(iterate 3 exact rfl))|(apply q9;(iterate 9 exact rfl))|apply zb|apply jg|apply ze|(apply qc1 (n:=(lns d).length) (m:=1) (sz:=4) (bytes:=40);(iterate 4 exact rfl);exact hml;exact rfl;exact rfl;exact⟨⟨_,_,rfl,rfl,rfl,rfl,rfl⟩⟩;exact rfl;exact rfl;(unfold maxLen;omega);omega;exact rfl))
  ·have hne:c≠[]:=fun e=>by subst e;simp at hll;omega
   have e:AV.sl 4 ((lns d).map lnA++[AV.ag [Iv ((lns d).map lnA).length,Iv d.length,Sv (l.drop d.length),Bv false]]) none=AV.sl 4 ((lns l).map lnA) none:=by
    rw [happ,qy9 _ _ hc hne,hml,hfrom,List.map_append]
    rfl
   exact qm rfl (qgm rfl rfl) ⟨e,qmi _ _ _ _⟩
  ·have hce:c=[]:=List.length_eq_zero_iff.1 (by omega)
   refine qm rfl (qgm rfl rfl) ⟨?_,qmi _ _ _ _⟩
   rw [happ,hce,qbw,List.append_nil]
 ·rintro pre a rest _ hr ⟨d,c,hdc,hw,hc,t,ext,rfl⟩
  have hlen:l.length=pre.length+(rest.length+1):=by rw [hr];simp
  have hpl:pre.length=d.length+c.length:=by rw [hdc];simp
  have hget:l.getD pre.length 0=a:=by rw [hr];simp
  have hcnt:=qfm _ d 0 0 (Nat.le_refl _)
  have hcnt':(lns d).length≤d.length:=hcnt
  have hml:((lns d).map lnA).length=(lns d).length:=by simp
  have hsp:(l.take pre.length).drop d.length=c:=by rw [hr,List.take_left' rfl,hdc,List.drop_left' rfl]
  repeat' (first|apply q4|apply za|apply qn|apply qs|apply qu|apply qo|(apply qz;(iterate 3 exact rfl))|(apply qc;exact rfl;apply wo;exact cAo)|(apply qc;exact rfl;apply cd_d <;> intro h)|(apply zm;(iterate 3 exact rfl))|(apply je;(iterate 4 exact rfl))|(apply z6;exact rfl;exact rfl;exact qj (by omega) (by omega))|(apply jd;(iterate 3 exact rfl);exact cAs)|(apply jt;(iterate 4 exact rfl);exact cAs;exact cAs)|(apply z9;(iterate 3 exact rfl))|(apply q9;(iterate 9 exact rfl))|apply zb|(apply qc1 (n:=(lns d).length) (m:=1) (sz:=4) (bytes:=40);(iterate 4 exact rfl);exact hml;exact rfl;exact rfl;exact⟨⟨_,_,rfl,rfl,rfl,rfl,rfl⟩⟩;exact rfl;exact rfl;(unfold maxLen;omega);omega;exact rfl))
  ·have ha:a=10:=by have h:=(qcj _).1 (by assumption:((l.getD pre.length 0).toNat:Int)=10);rw [hget] at h;exact h
   have happ:lns (d++(c++[10]))=lns d++[⟨(lns d).length,d.length,c,true⟩]:=by
    unfold lns
    rw [qmn _ d (c++[10]) 0 0 (Nat.le_refl _) hw,q1c _ _ hc]
    simp
   refine⟨d++(c++[10]),[],by rw [ha,hdc];simp,.inr (by simp),by simp,ql7 ⟨rfl,?_,?_,qs5 pre a,trivial⟩ ?_⟩
   ·have e:AV.sl 4 ((lns d).map lnA++[AV.ag [Iv ((lns d).map lnA).length,Iv d.length,Sv ((l.take pre.length).drop d.length),Bv true]]) (some (st.length+0))=AV.sl 4 ((lns (d++(c++[10]))).map lnA) (some (st.length+0)):=by
     rw [happ,hml,hsp,List.map_append]
     rfl
    exact e
   ·have e:Iv ((pre.length:Int)+1)=Iv ((d++(c++[10])).length:Nat):=by
     have:(d++(c++[10])).length=pre.length+1:=by simp;omega
     rw [this]
     rfl
    exact e
   ·rw [happ,qq6];rfl
  ·have ha:a≠10:=fun e=>absurd (by rw [hget];exact (qcj _).2 e:((l.getD pre.length 0).toNat:Int)=10) (by assumption)
   exact⟨d,c++[a],by rw [hdc];simp,hw,by simp [hc,Ne.symm ha],ql7 ⟨rfl,rfl,rfl,qs5 pre a,trivial⟩ rfl⟩
end Go.Proofs.YtmjmdjbdoiddeaaGreatDoor
namespace Go.Pl
open Go Go.Proofs
def indF (by':qd) (ls:List (qd×Bool)):qd:=ls.flatMap fun x=>by'++x.1++qmm x.2
def qml (by' l:qd):qd:=indF by' (kf l)
def qbg (x:LnV):qd×Bool:=(x.text,x.ended)
theorem qw5 (l:qd):(lns l).map qbg=kf l:=qnp _ l 0 0 (Nat.le_refl _)
end Go.Pl
namespace Go.Av
open Go Go.RowKit
def TipC (b:Nat) (st:List AObj) (sz:Nat) (T:TypeId) (xs:List AV) (c:AV):Prop:=(xs=[]∧c=kg)∨∃ t,c = .sl sz xs (some t)∧st[t]? = some (.tip xs.length sz T)∧b≤t
structure Fr (st st':List AObj) (t:Nat):Prop where
 len:st.length≤st'.length
 same:∀ k,k≠t→k<st.length→st'[k]? = st[k]?
theorem qz3 (b:Nat) (st:List AObj) (sz:Nat) (T:TypeId):TipC b st sz T [] kg:=.inl ⟨rfl,rfl⟩
theorem qe5 {b:Nat} {st l:List AObj} {sz:Nat} {T:TypeId} {xs:List AV} {c:AV} (h:TipC b st sz T xs c):TipC b (st++l) sz T xs c:=by
 rcases h with h | ⟨t,h1,h2,h3⟩
 ·exact .inl h
 ·exact .inr ⟨t,h1,by rw [List.getElem?_append_left (lt_of_getElem? h2)];exact h2,h3⟩
section
variable {E : Env} {rd : Option Nat} {N : Nat} {ops : Array Oper} {K : AS → Prop} {s : AS} {rest : List Oper} {d : Option Tmp} {T : TypeId} {p : String} {af : Array Edge}
theorem qoy {x y:Operand} {t u T':TypeId} {sz bytes b:Nat} {xs ys:List AV} {tip:Option Nat} {c:AV} {st:List AObj} (hst:s.st=st) (hx:qh N s x=c) (hc:TipC b st sz T' xs c) (hb:b≤st.length) (hy:qh N s y = .sl sz ys tip)
  (ht:E.P.underlying t=some (.slice T')) (hu:E.P.underlying u=some (.slice T')) (hT:qdw E.P T' sz bytes) (hone:xv (flat ys)=true) (h63:xs.length+ys.length≤maxLen) (hby:(xs.length+ys.length) * bytes≤140737488355328)
  (h:∀ t1 st',st'[t1]? = some (.tip (xs++ys).length sz T')→b≤t1→Fr st st' t1→(c = .sl sz xs (some t1)∨st.length≤t1)→AOps E rd N ops rest K (AS.put ⟨s.t,st',s.df⟩ d (.sl sz (xs++ys) (some t1)))):AOps E rd N ops (⟨d,.call ⟨.builtin .append,#[x,y],#[t,u]⟩,T,p,af,none⟩::rest) K s:=by
 subst hst
 refine q5 rfl (q6 nofun fun B0 w0 G a w _ hI=>?_)
 rcases hc with⟨hxs,hcn⟩ | ⟨t1,h1,h2,h3⟩
 ·subst hxs
  have hle:=G.le_new 0 0 0 false
  have hA:=hI.agree.newTip sz T'
  have hv:a.eval x = .slice none 0 0:=hI.evalv (hx.trans hcn)
  have hn:=hI.agree.n
  obtain⟨news,k1,k2,k3⟩:=qbp (P:=E.P) hA ((hI.eval_of hy).mono hle) (by simpa [xv] using hone)
  have hr:Rel (G.new 0 0 0 false) (.sl sz [] (some s.st.length)) (a.eval x):=by
   rw [hv]
   exact .sl0 sz _ none 0 fun t ht=>by simp only [Option.some.injEq] at ht;subst ht;exact⟨by simp [Gh.new,hn],rfl,rfl⟩
  obtain⟨v',w',G',e1,e2,e3,e4⟩:=qbj (ty:=T) hA ht hu (.inr ⟨_,rfl⟩) hT (t:=s.st.length) (n:=0) (by simp) hr rfl rfl k1 k2 k3 (by simpa using h63) (by simpa using hby)
  refine⟨v',w',G',_,_,?_,hle.trans e2,e3,e4,h s.st.length _ ?_ hb ⟨by simp,fun k hk hlt=>?_⟩ (.inr (Nat.le_refl _))⟩
  ·generalize a.eval = ρ at e1
   simp [execOp,resolve,invoke,builtin,e1]
  ·simp
  ·rw [List.getElem?_set_ne (Ne.symm hk),List.getElem?_append_left hlt]
 ·obtain⟨news,k1,k2,k3⟩:=qbp (P:=E.P) hI.agree (hI.eval_of hy) (by simpa [xv] using hone)
  obtain⟨v',w',G',e1,e2,e3,e4⟩:=qbj (ty:=T) hI.agree ht hu (.inr ⟨_,rfl⟩) hT h2 (hI.eval_of (hx.trans h1)) rfl rfl k1 k2 k3 h63 hby
  refine⟨v',w',G',_,_,?_,e2,e3,e4,h t1 _ ?_ h3 ⟨by simp,fun k hk hlt=>?_⟩ (.inl h1)⟩
  ·generalize a.eval = ρ at e1
   simp [execOp,resolve,invoke,builtin,e1]
  ·rw [List.length_append]
   exact x6 h2
  ·rw [List.getElem?_set_ne (Ne.symm hk)]
theorem qv0 {t:TypeId} {x:Operand} {r:AV} {cs:List AV} (hx:qh N s x=r) (hok:r.okc=true) (hc:r.cells=cs)
  (h:AOps E rd N ops rest K (s.put d (.pp cs))):AOps E rd N ops (⟨d,.box t x,T,p,af,none⟩::rest) K s:=by
 refine q5 rfl (q6 nofun fun B0 w0 G a w _ hI=>?_)
 have hr:=(hI.eval_of hx).cells hok
 rw [hc] at hr
 obtain⟨hle,hA⟩:=hI.agree.newPub t (a.eval x).cells (0,0) (a.eval x).cells.toList (fun i y hy=>by simpa using hy)
 have hrun:(execOp a.eval ⟨d,.box t x,T,p,af,none⟩).run E.P w = .ok (.value (.pointer (some ⟨w.heap.size,0,none⟩))) (w.alloc (.cells (a.eval x).cells t)):=by
  generalize a.eval = ρ
  simp [execOp,Instr.box,newVar,newRow,newObj,Sem.run]
 refine⟨_,_,_,.pp cs,s.st,hrun,hle,hA,.pp cs w.heap.size 0 (a.eval x).cells.toList (by simp [Gh.publish]) (by rw [hr.1];simp) fun i x y hx hy=>(hr.2 i x y hx (by simpa using hy)).mono hle,h⟩
end
theorem qje {E:Env} {f:FuncId} {x x':AV} {us:List AV} {st:List AObj} {R:AV→List AObj→Prop} (hw:∀ G v,Rel G x v→Rel G x' v) (h:qp E f (x'::us) st R):qp E f (x::us) st R:=
 ⟨fun B0 w0 G vals w hL hA hR=>h.run B0 w0 G vals w hL hA ⟨by have:=hR.1;simpa using this,fun i a b ha hb=>by
  cases i with
  |zero=>simp at ha;subst ha;exact hw G b (hR.2 0 x b rfl hb)
  |succ i=>exact hR.2 (i+1) a b (by simpa using ha) hb⟩⟩
theorem qdi {st l:List AObj} {o:Nat} {x:AObj} (h:st[o]? = some x):(st++l)[o]? = some x:=by
 rw [List.getElem?_append_left (lt_of_getElem? h)];exact h
theorem qbv {st:List AObj} {x:AObj}:(st++[x])[st.length]? = some x:=by simp
section
variable {E : Env} {rd : Option Nat} {N : Nat} {ops : Array Oper} {K : AS → Prop} {s : AS} {rest : List Oper} {d : Option Tmp} {T : TypeId} {p : String} {af : Array Edge}
theorem qrn {t:TypeId} {st:List AObj} {cs:List AV} (hst:s.st=st) (hz:qfs E.P t=some cs)
  (h:AOps E rd N ops rest K (AS.put ⟨s.t,st++[.cells 0 t cs],s.df⟩ d (.bx st.length 0 0))):AOps E rd N ops (⟨d,.alloc t,T,p,af,none⟩::rest) K s:=
 jc (loc:=[]) (by rw [hst];simp) hz h
theorem qv1 {t:TypeId} {x:Operand} {st:List AObj} {r:AV} {cs:List AV} (hst:s.st=st) (hx:qh N s x=r) (hok:r.okc=true) (hc:r.cells=cs)
  (h:AOps E rd N ops rest K (AS.put ⟨s.t,st++[.cells 0 t cs],s.df⟩ d (.bx st.length 0 0))):AOps E rd N ops (⟨d,.box t x,T,p,af,none⟩::rest) K s:=
 kz (loc:=[]) (by rw [hst];simp) hx hok hc h
end
theorem qgt {st st':List AObj} (hl:st.length≤st'.length) (h:∀ k,k<st.length→st'[k]? = st[k]?):∃ ext,st'=st++ext:=by
 refine⟨st'.drop st.length,?_⟩
 apply List.ext_getElem?
 intro k
 by_cases hk:k<st.length
 ·rw [h k hk,List.getElem?_append_left hk]
 ·rw [List.getElem?_append_right (by omega),List.getElem?_drop]
  congr 1
  omega
end Go.Av
