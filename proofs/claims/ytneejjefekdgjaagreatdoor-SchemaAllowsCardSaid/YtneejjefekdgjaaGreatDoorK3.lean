/- Contracts and plain facts that the closing text leans on (part 3). No condition of their own beyond those that each states. -/
import Derived.Test.YtneejjefekdgjaaGreatDoorK2
import Derived.Deep.Slices
import Derived.Deep.Fields
import Derived.WideKeyArgs
import Derived.Lib.ItoaLen
set_option maxRecDepth 100000
set_option linter.unusedVariables false
set_option linter.unusedSimpArgs false
namespace Go.Proofs.YtneejjefekdgjaaGreatDoor
open Go Go.Av Go.RowKit Go.Proofs Go.Pl
theorem qv9 {xs:List FldV} {k:Nat} (hk:k<xs.length):(xs.map fldA)[k]? = some (fldA (xs.getD k ([],[]))):=by
 simp [List.getD,hk]
def wo (key:qe) (xs:List FldV):List qe:=(xs.filter fun f=>f.1=key).map Prod.snd
theorem qge {key:qe} {xs:List FldV} {k:Nat} (hk:k<xs.length):wo key (xs.take (k+1))=wo key (xs.take k)++if (xs.getD k ([],[])).1=key then [(xs.getD k ([],[])).2] else []:=by
 unfold wo
 rw [List.take_succ_eq_append_getElem hk,List.filter_append,List.map_append]
 congr 1
 have e:xs.getD k ([],[])=xs[k]:=by simp [List.getD,hk]
 rw [e]
 by_cases h:xs[k].1=key <;> simp [h]
theorem qkv (key:qe) (xs:List FldV):(wo key xs).length≤xs.length:=by
 unfold wo
 rw [List.length_map]
 exact List.length_filter_le _ _
theorem qiw (key:qe) (xs:List FldV) (k:Nat):(wo key (xs.take k)).length≤xs.length:=by
 have h1:=qkv key (xs.take k)
 have h2:(xs.take k).length≤xs.length:=by simp;omega
 omega
set_option maxHeartbeats 1000000 in
theorem qyb (key:qe) (xs:List FldV) (st:List AObj) (hx:xs.length<1000000000):qp E 83 [Sv key,kc xs] st fun r st'=>r = .sl 1 ((wo key xs).map fun x=>Sv x) none∧st'=st:=by
 refine zi (ql3 _) (qt Tryz.func83 rfl (Nat.le_of_ble_eq_true rfl) ?_)
 have hlen:(xs.map fldA).length=xs.length:=by simp
 repeat' (first|(apply w7;first|apply qr|apply ze|apply ql|(apply qc;exact rfl;apply wa;exact cAo)|(apply qc;exact rfl;apply wq;exact cAo)|(apply qc;exact rfl;apply yz;exact cRa)|(apply qc;exact rfl;apply qaa;exact cRa)|(apply qc;exact rfl;apply cd_n <;> intro h)|(apply qc;exact rfl;apply cd_t;exact cRa)|(apply qc;exact rfl;apply cd_f;exact cRa)|(apply qc;exact rfl;apply cd_d <;> intro h)|(apply qc;exact rfl;apply cd_s <;> intro h)|(apply w6;exact rfl;kernel_rfl)|apply q8|apply jq|apply zb)|(apply vh;first|(apply qv;(iterate 4 exact rfl))|(apply zt;(iterate 4 exact rfl)))|(apply xz;first|(apply v7;exact cAo)|(apply kg;exact cAo)|(apply j6;exact cAo)|(apply vz;exact cAo)|(apply vw;exact cRa)|(apply vv;exact cRa)|(apply vk;exact cRa)|(apply kq;exact cRa)|(apply kr <;> intro h)|(apply vr;exact cRa)|(apply wv;exact cRa)|(apply vq;exact cRa)|(apply ke;exact cRa)|(apply jo <;> intro h)|(apply wl <;> intro h))|(apply xy;first|apply yb|(apply xm;(iterate 4 exact rfl))|(apply yt;exact rfl;exact rfl;exact qn (by omega) (by omega))|(apply xo;(iterate 4 exact rfl);exact cAs;exact cAs)|(apply ka;(iterate 5 exact rfl))|(apply vp;exact rfl;exact rfl;exact cOs)|(apply kp;(iterate 3 exact rfl))|(apply j9;(iterate 5 exact rfl))|(apply jb;(iterate 4 exact rfl))|(apply ja;(iterate 3 exact rfl))|(apply yw;(iterate 3 exact rfl);exact cAs)|(apply xx;exact rfl;exact rfl)|(apply wy;exact rfl;exact rfl)|(apply wz;(iterate 3 exact rfl);omega)|(apply we;(iterate 3 exact rfl))|apply w9|apply vu|(apply yj;exact rfl;exact rfl;exact qn (by omega) (by omega))|(apply xw;(iterate 3 exact rfl))|(apply xp;(iterate 3 exact rfl);exact cAs)|(apply xl;(iterate 3 exact rfl);exact cAs)|(apply vf;exact rfl;exact rfl))|(apply vg;first|(apply qw;(iterate 3 exact rfl))|(apply jm;(iterate 3 exact rfl))|(apply jf;exact rfl;exact rfl;exact cOs)|(apply zp;exact rfl;exact rfl;exact qn (by omega) (by omega))|(apply kz;exact rfl;exact rfl;exact qn (by omega) (by omega))|(apply jc;exact rfl;exact rfl)|(apply jd;exact rfl;exact rfl)|(apply z7;exact rfl;exact rfl)|(apply jh;exact rfl;exact rfl)|(apply z4;(iterate 3 exact rfl))|(apply ji;(iterate 3 exact rfl))|(apply ve;exact rfl;exact rfl;(first|exact qi _|exact rfl);first|exact qi _|exact rfl)|(apply vb;exact rfl;exact rfl;(first|exact qi _|exact rfl);first|exact qi _|exact rfl)|(apply wd;exact rfl;exact rfl;(first|exact qi _|exact rfl);first|exact qi _|exact rfl)|(apply vc;(iterate 3 exact rfl))|(apply vd;(iterate 3 exact rfl)))|(apply wh;first|(apply zk;(iterate 3 exact rfl))|(apply jr;(iterate 5 exact rfl))|(apply zn;(iterate 5 exact rfl)))|(apply wi;first|(apply ko;exact rfl)|(apply jv;exact rfl)|(apply jx;exact rfl))|(apply vi;first|(apply vo;(iterate 3 exact rfl);exact cAs)|(apply vn;(iterate 3 exact rfl);exact cAs)|(apply va;(iterate 4 exact rfl);exact cAs;exact cAs)|(apply je;(iterate 4 exact rfl);(first|assumption|omega|exact Nat.succ_le_succ (Nat.zero_le _)|(simp;omega));exact rfl))|(apply wg;first|(apply zx;(iterate 3 exact rfl))|(apply zu;(iterate 4 exact rfl)))|(apply jl;first|(apply q5;(iterate 3 exact rfl))|(apply zg;(iterate 4 exact rfl)))|(apply vj;first|(apply jk;(iterate 11 exact rfl))|(apply zm;(iterate 11 exact rfl)))|(apply w8;first|apply qk|apply qo|apply qm|(apply zj;exact rfl;exact rfl)|(apply qf;exact rfl;apply xq;exact cAo)|(apply qf;exact rfl;apply x3;exact cAo)|(apply qf;exact rfl;apply qal;exact cRa)|(apply qf;exact rfl;apply qad;exact cRa)|(apply qf;exact rfl;apply pk_t;exact cRa)|(apply qf;exact rfl;apply pk_f;exact cRa)|(apply q9;exact rfl;exact rfl)|apply jg|(apply jj;exact rfl;exact rfl)|(apply vl;(iterate 4 exact rfl))|(apply kj;(iterate 3 exact rfl))|(apply j7;(iterate 3 exact rfl);exact cAs)|(apply ju;(iterate 3 exact rfl))|(apply zr;(iterate 9 exact rfl))|(apply zo;exact rfl;exact rfl)|(apply kf;(iterate 4 exact rfl);(first|assumption|omega|decide);exact rfl)|(apply z8;(iterate 4 exact rfl);first|assumption|omega|decide)))
 refine qpi (i:=5) (sz:=1) (T':=9) rfl ?_
 refine yl (fun (k:Nat) s=>k≤xs.length∧StE [(0,Sv key),(5,.sl 1 ((wo key (xs.take k)).map fun x=>Sv x) (some (st.length+0))),(8,kc xs),(9,Iv xs.length),(10,Iv k)] st [.tip (wo key (xs.take k)).length 1 9] s) (fun k=>xs.length - k) 0 ⟨by omega,qhj ⟨rfl,by simp [wo];rfl,rfl,by simp;rfl,rfl,trivial⟩ (by show (st++[])++[AObj.tip 0 1 _]=_;simp [wo])⟩ ?_
 rintro k _ ⟨hk,t,ext,rfl⟩
 have hvl:=qiw key xs k
 repeat' (first|(apply w7;first|apply qr|apply ze|apply ql|(apply qc;exact rfl;apply wa;exact cAo)|(apply qc;exact rfl;apply wq;exact cAo)|(apply qc;exact rfl;apply yz;exact cRa)|(apply qc;exact rfl;apply qaa;exact cRa)|(apply qc;exact rfl;apply cd_n <;> intro h)|(apply qc;exact rfl;apply cd_t;exact cRa)|(apply qc;exact rfl;apply cd_f;exact cRa)|(apply qc;exact rfl;apply cd_d <;> intro h)|(apply qc;exact rfl;apply cd_s <;> intro h)|(apply w6;exact rfl;kernel_rfl)|apply q8|apply jq|apply zb)|(apply vh;first|(apply qv;(iterate 4 exact rfl))|(apply zt;(iterate 4 exact rfl)))|(apply xz;first|(apply v7;exact cAo)|(apply kg;exact cAo)|(apply j6;exact cAo)|(apply vz;exact cAo)|(apply vw;exact cRa)|(apply vv;exact cRa)|(apply vk;exact cRa)|(apply kq;exact cRa)|(apply kr <;> intro h)|(apply vr;exact cRa)|(apply wv;exact cRa)|(apply vq;exact cRa)|(apply ke;exact cRa)|(apply jo <;> intro h)|(apply wl <;> intro h))|(apply xy;first|apply yb|(apply xm;(iterate 4 exact rfl))|(apply yt;exact rfl;exact rfl;exact qn (by omega) (by omega))|(apply xo;(iterate 4 exact rfl);exact cAs;exact cAs)|(apply ka;(iterate 5 exact rfl))|(apply vp;exact rfl;exact rfl;exact cOs)|(apply kp;(iterate 3 exact rfl))|(apply j9;(iterate 5 exact rfl))|(apply jb;(iterate 4 exact rfl))|(apply ja;(iterate 3 exact rfl))|(apply yw;(iterate 3 exact rfl);exact cAs)|(apply xx;exact rfl;exact rfl)|(apply wy;exact rfl;exact rfl)|(apply wz;(iterate 3 exact rfl);omega)|(apply we;(iterate 3 exact rfl))|apply w9|apply vu|(apply yj;exact rfl;exact rfl;exact qn (by omega) (by omega))|(apply xw;(iterate 3 exact rfl))|(apply xp;(iterate 3 exact rfl);exact cAs)|(apply xl;(iterate 3 exact rfl);exact cAs)|(apply vf;exact rfl;exact rfl))|(apply vg;first|(apply qw;(iterate 3 exact rfl))|(apply jm;(iterate 3 exact rfl))|(apply jf;exact rfl;exact rfl;exact cOs)|(apply zp;exact rfl;exact rfl;exact qn (by omega) (by omega))|(apply kz;exact rfl;exact rfl;exact qn (by omega) (by omega))|(apply jc;exact rfl;exact rfl)|(apply jd;exact rfl;exact rfl)|(apply z7;exact rfl;exact rfl)|(apply jh;exact rfl;exact rfl)|(apply z4;(iterate 3 exact rfl))|(apply ji;(iterate 3 exact rfl))|(apply ve;exact rfl;exact rfl;(first|exact qi _|exact rfl);first|exact qi _|exact rfl)|(apply vb;exact rfl;exact rfl;(first|exact qi _|exact rfl);first|exact qi _|exact rfl)|(apply wd;exact rfl;exact rfl;(first|exact qi _|exact rfl);first|exact qi _|exact rfl)|(apply vc;(iterate 3 exact rfl))|(apply vd;(iterate 3 exact rfl)))|(apply wh;first|(apply zk;(iterate 3 exact rfl))|(apply jr;(iterate 5 exact rfl))|(apply zn;(iterate 5 exact rfl)))|(apply wi;first|(apply ko;exact rfl)|(apply jv;exact rfl)|(apply jx;exact rfl))|(apply vi;first|(apply vo;(iterate 3 exact rfl);exact cAs)|(apply vn;(iterate 3 exact rfl);exact cAs)|(apply va;(iterate 4 exact rfl);exact cAs;exact cAs)|(apply je;(iterate 4 exact rfl);(first|assumption|omega|exact Nat.succ_le_succ (Nat.zero_le _)|(simp;omega));exact rfl))|(apply wg;first|(apply zx;(iterate 3 exact rfl))|(apply zu;(iterate 4 exact rfl)))|(apply jl;first|(apply q5;(iterate 3 exact rfl))|(apply zg;(iterate 4 exact rfl)))|(apply vj;first|(apply jk;(iterate 11 exact rfl))|(apply zm;(iterate 11 exact rfl)))|(apply w8;first|apply qk|apply qo|apply qm|(apply zj;exact rfl;exact rfl)|(apply qf;exact rfl;apply xq;exact cAo)|(apply qf;exact rfl;apply x3;exact cAo)|(apply qf;exact rfl;apply qal;exact cRa)|(apply qf;exact rfl;apply qad;exact cRa)|(apply qf;exact rfl;apply pk_t;exact cRa)|(apply qf;exact rfl;apply pk_f;exact cRa)|(apply q9;exact rfl;exact rfl)|apply jg|(apply jj;exact rfl;exact rfl)|(apply vl;(iterate 4 exact rfl))|(apply kj;(iterate 3 exact rfl))|(apply j7;(iterate 3 exact rfl);exact cAs)|(apply ju;(iterate 3 exact rfl))|(apply zr;(iterate 9 exact rfl))|(apply zo;exact rfl;exact rfl)|(apply kf;(iterate 4 exact rfl);(first|assumption|omega|decide);exact rfl)|(apply z8;(iterate 4 exact rfl);first|assumption|omega|decide))|(apply x9 (n:=k);(iterate 5 exact rfl);exact qv9 (by omega))|(apply qdc (n:=(wo key (xs.take k)).length) (m:=1) (sz:=1) (bytes:=16);(iterate 4 exact rfl);simp;exact rfl;exact rfl;exact⟨⟨_,_,rfl,rfl,rfl,rfl,rfl⟩⟩;exact rfl;exact rfl;(unfold maxLen;omega);omega;exact rfl))
 ·refine⟨k+1,⟨by omega,qdv ⟨rfl,?_,rfl,rfl,rfl,trivial⟩ ?_⟩,by omega⟩
  ·rw [qge (by omega),if_pos (by assumption),List.map_append]
   rfl
  ·rw [qge (by omega),if_pos (by assumption),List.length_append]
   rfl
 ·have e:wo key (xs.take (k+1))=wo key (xs.take k):=by rw [qge (by omega),if_neg (by assumption),List.append_nil]
  refine⟨k+1,⟨by omega,qdv ⟨rfl,?_,rfl,rfl,rfl,trivial⟩ ?_⟩,by omega⟩
  ·rw [e]
   rfl
  ·rw [e]
 ·have e:k=xs.length:=by omega
  subst e
  refine qq rfl (qjr (sz:=1) rfl rfl) ⟨?_,qe5 _ _ _ _⟩
  rw [List.take_length]
def qjz (xs:List FldV) (p:FldV→Bool):Int:=match xs.findIdx? p with|some k=>k|none=> -1
theorem q65 {xs:List FldV} {p:FldV→Bool} {k:Nat} (hk:k<xs.length) (h1:∀ x∈xs.take k,p x=false) (h2:p (xs.getD k ([],[]))=true):qjz xs p=k:=by
 unfold qjz
 have:xs.findIdx? p=some k:=by
  rw [List.findIdx?_eq_some_iff_getElem]
  refine⟨hk,by simpa [List.getD,hk] using h2,fun j hj=>?_⟩
  have:=h1 xs[j] (by rw [List.mem_take_iff_getElem];exact⟨j,by omega,rfl⟩)
  simpa using this
 rw [this]
theorem q1i {xs:List FldV} {p:FldV→Bool} (h:∀ x∈xs,p x=false):qjz xs p = -1:=by
 unfold qjz
 have:xs.findIdx? p=none:=by
  rw [List.findIdx?_eq_none_iff]
  exact h
 rw [this]
theorem q32 (xs:List FldV) (p:FldV→Bool):0≤qjz xs p↔xs.any p=true:=by
 unfold qjz
 cases h:xs.findIdx? p with
 |none=>
  rw [List.findIdx?_eq_none_iff] at h
  rw [List.any_eq_true]
  constructor
  ·intro h';simp at h'
  ·rintro⟨x,hx,h'⟩;rw [h x hx] at h';simp at h'
 |some k=>
  rw [List.findIdx?_eq_some_iff_getElem] at h
  obtain⟨hk,h1,_⟩:=h
  rw [List.any_eq_true]
  exact⟨fun _=>⟨xs[k],List.getElem_mem hk,h1⟩,fun _=>by simp⟩
theorem q2o {xs:List FldV} {p:FldV→Bool} {k:Nat} (hk:k<xs.length) (h1:∀ x∈xs.take k,p x=false) (h2:p (xs.getD k ([],[]))=false):∀ x∈xs.take (k+1),p x=false:=by
 intro x hx
 rw [List.take_succ_eq_append_getElem hk,List.mem_append,List.mem_singleton] at hx
 rcases hx with hx|rfl
 ·exact h1 x hx
 ·simpa [List.getD,hk] using h2
theorem q9w {xs:List FldV} {k:Nat} (hk:k<xs.length):xs.getD k ([],[])∈xs:=by
 have e:xs.getD k ([],[])=xs[k]:=by simp [List.getD,hk]
 rw [e]
 exact List.getElem_mem hk
theorem q1r (xs:List FldV) (p:FldV→Bool) (F:FuncId) (cs:List AV) (st:List AObj) (hx:xs.length<9223372036854775807) (hF:∀ vs w,(callFunc F vs).run E.P w = .ok (.enter F vs) w)
  (hp:∀ x∈xs,qp E F (fldA x::cs) (st++[]) fun r st'=>r=Bv (p x)∧st'=st++[]):qp E 146 [kc xs,.fn (.func F) [] cs] st fun r st'=>r=Iv (qjz xs p)∧st'=st:=by
 refine zi (qy _) (qt Tryz.func146 rfl (Nat.le_of_ble_eq_true rfl) ?_)
 have hlen:(xs.map fldA).length=xs.length:=by simp
 repeat' (first|(apply w7;first|apply qr|apply ze|apply ql|(apply qc;exact rfl;apply wa;exact cAo)|(apply qc;exact rfl;apply wq;exact cAo)|(apply qc;exact rfl;apply yz;exact cRa)|(apply qc;exact rfl;apply qaa;exact cRa)|(apply qc;exact rfl;apply cd_n <;> intro h)|(apply qc;exact rfl;apply cd_t;exact cRa)|(apply qc;exact rfl;apply cd_f;exact cRa)|(apply qc;exact rfl;apply cd_d <;> intro h)|(apply qc;exact rfl;apply cd_s <;> intro h)|(apply w6;exact rfl;kernel_rfl)|apply q8|apply jq|apply zb)|(apply vh;first|(apply qv;(iterate 4 exact rfl))|(apply zt;(iterate 4 exact rfl)))|(apply xz;first|(apply v7;exact cAo)|(apply kg;exact cAo)|(apply j6;exact cAo)|(apply vz;exact cAo)|(apply vw;exact cRa)|(apply vv;exact cRa)|(apply vk;exact cRa)|(apply kq;exact cRa)|(apply kr <;> intro h)|(apply vr;exact cRa)|(apply wv;exact cRa)|(apply vq;exact cRa)|(apply ke;exact cRa)|(apply jo <;> intro h)|(apply wl <;> intro h))|(apply xy;first|apply yb|(apply xm;(iterate 4 exact rfl))|(apply yt;exact rfl;exact rfl;exact qn (by omega) (by omega))|(apply xo;(iterate 4 exact rfl);exact cAs;exact cAs)|(apply ka;(iterate 5 exact rfl))|(apply vp;exact rfl;exact rfl;exact cOs)|(apply kp;(iterate 3 exact rfl))|(apply j9;(iterate 5 exact rfl))|(apply jb;(iterate 4 exact rfl))|(apply ja;(iterate 3 exact rfl))|(apply yw;(iterate 3 exact rfl);exact cAs)|(apply xx;exact rfl;exact rfl)|(apply wy;exact rfl;exact rfl)|(apply wz;(iterate 3 exact rfl);omega)|(apply we;(iterate 3 exact rfl))|apply w9|apply vu|(apply yj;exact rfl;exact rfl;exact qn (by omega) (by omega))|(apply xw;(iterate 3 exact rfl))|(apply xp;(iterate 3 exact rfl);exact cAs)|(apply xl;(iterate 3 exact rfl);exact cAs)|(apply vf;exact rfl;exact rfl))|(apply vg;first|(apply qw;(iterate 3 exact rfl))|(apply jm;(iterate 3 exact rfl))|(apply jf;exact rfl;exact rfl;exact cOs)|(apply zp;exact rfl;exact rfl;exact qn (by omega) (by omega))|(apply kz;exact rfl;exact rfl;exact qn (by omega) (by omega))|(apply jc;exact rfl;exact rfl)|(apply jd;exact rfl;exact rfl)|(apply z7;exact rfl;exact rfl)|(apply jh;exact rfl;exact rfl)|(apply z4;(iterate 3 exact rfl))|(apply ji;(iterate 3 exact rfl))|(apply ve;exact rfl;exact rfl;(first|exact qi _|exact rfl);first|exact qi _|exact rfl)|(apply vb;exact rfl;exact rfl;(first|exact qi _|exact rfl);first|exact qi _|exact rfl)|(apply wd;exact rfl;exact rfl;(first|exact qi _|exact rfl);first|exact qi _|exact rfl)|(apply vc;(iterate 3 exact rfl))|(apply vd;(iterate 3 exact rfl)))|(apply wh;first|(apply zk;(iterate 3 exact rfl))|(apply jr;(iterate 5 exact rfl))|(apply zn;(iterate 5 exact rfl)))|(apply wi;first|(apply ko;exact rfl)|(apply jv;exact rfl)|(apply jx;exact rfl))|(apply vi;first|(apply vo;(iterate 3 exact rfl);exact cAs)|(apply vn;(iterate 3 exact rfl);exact cAs)|(apply va;(iterate 4 exact rfl);exact cAs;exact cAs)|(apply je;(iterate 4 exact rfl);(first|assumption|omega|exact Nat.succ_le_succ (Nat.zero_le _)|(simp;omega));exact rfl))|(apply wg;first|(apply zx;(iterate 3 exact rfl))|(apply zu;(iterate 4 exact rfl)))|(apply jl;first|(apply q5;(iterate 3 exact rfl))|(apply zg;(iterate 4 exact rfl)))|(apply vj;first|(apply jk;(iterate 11 exact rfl))|(apply zm;(iterate 11 exact rfl)))|(apply w8;first|apply qk|apply qo|apply qm|(apply zj;exact rfl;exact rfl)|(apply qf;exact rfl;apply xq;exact cAo)|(apply qf;exact rfl;apply x3;exact cAo)|(apply qf;exact rfl;apply qal;exact cRa)|(apply qf;exact rfl;apply qad;exact cRa)|(apply qf;exact rfl;apply pk_t;exact cRa)|(apply qf;exact rfl;apply pk_f;exact cRa)|(apply q9;exact rfl;exact rfl)|apply jg|(apply jj;exact rfl;exact rfl)|(apply vl;(iterate 4 exact rfl))|(apply kj;(iterate 3 exact rfl))|(apply j7;(iterate 3 exact rfl);exact cAs)|(apply ju;(iterate 3 exact rfl))|(apply zr;(iterate 9 exact rfl))|(apply zo;exact rfl;exact rfl)|(apply kf;(iterate 4 exact rfl);(first|assumption|omega|decide);exact rfl)|(apply z8;(iterate 4 exact rfl);first|assumption|omega|decide)))
 refine yl (fun (k:Nat) s=>k≤xs.length∧(∀ x∈xs.take k,p x=false)∧StA [(0,kc xs),(1,.fn (.func F) [] cs),(7,Iv xs.length),(8,Iv k)] (st++[]) [] s) (fun k=>xs.length - k) 0 ⟨by omega,by simp,v6 ⟨rfl,rfl,by simp;rfl,rfl,trivial⟩⟩ ?_
 rintro k _ ⟨hk,h1,t,rfl⟩
 repeat' (first|(apply w7;first|apply qr|apply ze|apply ql|(apply qc;exact rfl;apply wa;exact cAo)|(apply qc;exact rfl;apply wq;exact cAo)|(apply qc;exact rfl;apply yz;exact cRa)|(apply qc;exact rfl;apply qaa;exact cRa)|(apply qc;exact rfl;apply cd_n <;> intro h)|(apply qc;exact rfl;apply cd_t;exact cRa)|(apply qc;exact rfl;apply cd_f;exact cRa)|(apply qc;exact rfl;apply cd_d <;> intro h)|(apply qc;exact rfl;apply cd_s <;> intro h)|(apply w6;exact rfl;kernel_rfl)|apply q8|apply jq|apply zb)|(apply vh;first|(apply qv;(iterate 4 exact rfl))|(apply zt;(iterate 4 exact rfl)))|(apply xz;first|(apply v7;exact cAo)|(apply kg;exact cAo)|(apply j6;exact cAo)|(apply vz;exact cAo)|(apply vw;exact cRa)|(apply vv;exact cRa)|(apply vk;exact cRa)|(apply kq;exact cRa)|(apply kr <;> intro h)|(apply vr;exact cRa)|(apply wv;exact cRa)|(apply vq;exact cRa)|(apply ke;exact cRa)|(apply jo <;> intro h)|(apply wl <;> intro h))|(apply xy;first|apply yb|(apply xm;(iterate 4 exact rfl))|(apply yt;exact rfl;exact rfl;exact qn (by omega) (by omega))|(apply xo;(iterate 4 exact rfl);exact cAs;exact cAs)|(apply ka;(iterate 5 exact rfl))|(apply vp;exact rfl;exact rfl;exact cOs)|(apply kp;(iterate 3 exact rfl))|(apply j9;(iterate 5 exact rfl))|(apply jb;(iterate 4 exact rfl))|(apply ja;(iterate 3 exact rfl))|(apply yw;(iterate 3 exact rfl);exact cAs)|(apply xx;exact rfl;exact rfl)|(apply wy;exact rfl;exact rfl)|(apply wz;(iterate 3 exact rfl);omega)|(apply we;(iterate 3 exact rfl))|apply w9|apply vu|(apply yj;exact rfl;exact rfl;exact qn (by omega) (by omega))|(apply xw;(iterate 3 exact rfl))|(apply xp;(iterate 3 exact rfl);exact cAs)|(apply xl;(iterate 3 exact rfl);exact cAs)|(apply vf;exact rfl;exact rfl))|(apply vg;first|(apply qw;(iterate 3 exact rfl))|(apply jm;(iterate 3 exact rfl))|(apply jf;exact rfl;exact rfl;exact cOs)|(apply zp;exact rfl;exact rfl;exact qn (by omega) (by omega))|(apply kz;exact rfl;exact rfl;exact qn (by omega) (by omega))|(apply jc;exact rfl;exact rfl)|(apply jd;exact rfl;exact rfl)|(apply z7;exact rfl;exact rfl)|(apply jh;exact rfl;exact rfl)|(apply z4;(iterate 3 exact rfl))|(apply ji;(iterate 3 exact rfl))|(apply ve;exact rfl;exact rfl;(first|exact qi _|exact rfl);first|exact qi _|exact rfl)|(apply vb;exact rfl;exact rfl;(first|exact qi _|exact rfl);first|exact qi _|exact rfl)|(apply wd;exact rfl;exact rfl;(first|exact qi _|exact rfl);first|exact qi _|exact rfl)|(apply vc;(iterate 3 exact rfl))|(apply vd;(iterate 3 exact rfl)))|(apply wh;first|(apply zk;(iterate 3 exact rfl))|(apply jr;(iterate 5 exact rfl))|(apply zn;(iterate 5 exact rfl)))|(apply wi;first|(apply ko;exact rfl)|(apply jv;exact rfl)|(apply jx;exact rfl))|(apply vi;first|(apply vo;(iterate 3 exact rfl);exact cAs)|(apply vn;(iterate 3 exact rfl);exact cAs)|(apply va;(iterate 4 exact rfl);exact cAs;exact cAs)|(apply je;(iterate 4 exact rfl);(first|assumption|omega|exact Nat.succ_le_succ (Nat.zero_le _)|(simp;omega));exact rfl))|(apply wg;first|(apply zx;(iterate 3 exact rfl))|(apply zu;(iterate 4 exact rfl)))|(apply jl;first|(apply q5;(iterate 3 exact rfl))|(apply zg;(iterate 4 exact rfl)))|(apply vj;first|(apply jk;(iterate 11 exact rfl))|(apply zm;(iterate 11 exact rfl)))|(apply w8;first|apply qk|apply qo|apply qm|(apply zj;exact rfl;exact rfl)|(apply qf;exact rfl;apply xq;exact cAo)|(apply qf;exact rfl;apply x3;exact cAo)|(apply qf;exact rfl;apply qal;exact cRa)|(apply qf;exact rfl;apply qad;exact cRa)|(apply qf;exact rfl;apply pk_t;exact cRa)|(apply qf;exact rfl;apply pk_f;exact cRa)|(apply q9;exact rfl;exact rfl)|apply jg|(apply jj;exact rfl;exact rfl)|(apply vl;(iterate 4 exact rfl))|(apply kj;(iterate 3 exact rfl))|(apply j7;(iterate 3 exact rfl);exact cAs)|(apply ju;(iterate 3 exact rfl))|(apply zr;(iterate 9 exact rfl))|(apply zo;exact rfl;exact rfl)|(apply kf;(iterate 4 exact rfl);(first|assumption|omega|decide);exact rfl)|(apply z8;(iterate 4 exact rfl);first|assumption|omega|decide))|(apply x9 (n:=k);(iterate 5 exact rfl);exact qv9 (by omega))|(refine qo9 rfl hF (qp.mono (hp (xs.getD k ([],[])) (q9w (by omega))) ?_);rintro _ _ ⟨rfl,rfl⟩))
 ·exact qq rfl (zf rfl) ⟨congrArg Iv (q65 (by omega) h1 (by assumption)).symm,_,rfl⟩
 ·exact⟨k+1,⟨by omega,q2o (by omega) h1 (by assumption),v6 ⟨rfl,rfl,rfl,rfl,trivial⟩⟩,by omega⟩
 ·have e:k=xs.length:=by omega
  subst e
  rw [List.take_length] at h1
  exact qq rfl (zf rfl) ⟨congrArg Iv (q1i h1).symm,_,rfl⟩
theorem qt3 (xs:List FldV) (p:FldV→Bool) (F:FuncId) (cs:List AV) (st:List AObj) (hx:xs.length<9223372036854775807) (hF:∀ vs w,(callFunc F vs).run E.P w = .ok (.enter F vs) w)
  (hp:∀ x∈xs,qp E F (fldA x::cs) ((st++[])++[]) fun r st'=>r=Bv (p x)∧st'=(st++[])++[]):qp E 84 [kc xs,.fn (.func F) [] cs] st fun r st'=>r=Bv (xs.any p)∧st'=st:=by
 refine zi (qy _) (qt Tryz.func84 rfl (Nat.le_of_ble_eq_true rfl) ?_)
 repeat' (first|(apply w7;first|apply qr|apply ze|apply ql|(apply qc;exact rfl;apply wa;exact cAo)|(apply qc;exact rfl;apply wq;exact cAo)|(apply qc;exact rfl;apply yz;exact cRa)|(apply qc;exact rfl;apply qaa;exact cRa)|(apply qc;exact rfl;apply cd_n <;> intro h)|(apply qc;exact rfl;apply cd_t;exact cRa)|(apply qc;exact rfl;apply cd_f;exact cRa)|(apply qc;exact rfl;apply cd_d <;> intro h)|(apply qc;exact rfl;apply cd_s <;> intro h)|(apply w6;exact rfl;kernel_rfl)|apply q8|apply jq|apply zb)|(apply vh;first|(apply qv;(iterate 4 exact rfl))|(apply zt;(iterate 4 exact rfl)))|(apply xz;first|(apply v7;exact cAo)|(apply kg;exact cAo)|(apply j6;exact cAo)|(apply vz;exact cAo)|(apply vw;exact cRa)|(apply vv;exact cRa)|(apply vk;exact cRa)|(apply kq;exact cRa)|(apply kr <;> intro h)|(apply vr;exact cRa)|(apply wv;exact cRa)|(apply vq;exact cRa)|(apply ke;exact cRa)|(apply jo <;> intro h)|(apply wl <;> intro h))|(apply xy;first|apply yb|(apply xm;(iterate 4 exact rfl))|(apply yt;exact rfl;exact rfl;exact qn (by omega) (by omega))|(apply xo;(iterate 4 exact rfl);exact cAs;exact cAs)|(apply ka;(iterate 5 exact rfl))|(apply vp;exact rfl;exact rfl;exact cOs)|(apply kp;(iterate 3 exact rfl))|(apply j9;(iterate 5 exact rfl))|(apply jb;(iterate 4 exact rfl))|(apply ja;(iterate 3 exact rfl))|(apply yw;(iterate 3 exact rfl);exact cAs)|(apply xx;exact rfl;exact rfl)|(apply wy;exact rfl;exact rfl)|(apply wz;(iterate 3 exact rfl);omega)|(apply we;(iterate 3 exact rfl))|apply w9|apply vu|(apply yj;exact rfl;exact rfl;exact qn (by omega) (by omega))|(apply xw;(iterate 3 exact rfl))|(apply xp;(iterate 3 exact rfl);exact cAs)|(apply xl;(iterate 3 exact rfl);exact cAs)|(apply vf;exact rfl;exact rfl))|(apply vg;first|(apply qw;(iterate 3 exact rfl))|(apply jm;(iterate 3 exact rfl))|(apply jf;exact rfl;exact rfl;exact cOs)|(apply zp;exact rfl;exact rfl;exact qn (by omega) (by omega))|(apply kz;exact rfl;exact rfl;exact qn (by omega) (by omega))|(apply jc;exact rfl;exact rfl)|(apply jd;exact rfl;exact rfl)|(apply z7;exact rfl;exact rfl)|(apply jh;exact rfl;exact rfl)|(apply z4;(iterate 3 exact rfl))|(apply ji;(iterate 3 exact rfl))|(apply ve;exact rfl;exact rfl;(first|exact qi _|exact rfl);first|exact qi _|exact rfl)|(apply vb;exact rfl;exact rfl;(first|exact qi _|exact rfl);first|exact qi _|exact rfl)|(apply wd;exact rfl;exact rfl;(first|exact qi _|exact rfl);first|exact qi _|exact rfl)|(apply vc;(iterate 3 exact rfl))|(apply vd;(iterate 3 exact rfl)))|(apply wh;first|(apply zk;(iterate 3 exact rfl))|(apply jr;(iterate 5 exact rfl))|(apply zn;(iterate 5 exact rfl)))|(apply wi;first|(apply ko;exact rfl)|(apply jv;exact rfl)|(apply jx;exact rfl))|(apply vi;first|(apply vo;(iterate 3 exact rfl);exact cAs)|(apply vn;(iterate 3 exact rfl);exact cAs)|(apply va;(iterate 4 exact rfl);exact cAs;exact cAs)|(apply je;(iterate 4 exact rfl);(first|assumption|omega|exact Nat.succ_le_succ (Nat.zero_le _)|(simp;omega));exact rfl))|(apply wg;first|(apply zx;(iterate 3 exact rfl))|(apply zu;(iterate 4 exact rfl)))|(apply jl;first|(apply q5;(iterate 3 exact rfl))|(apply zg;(iterate 4 exact rfl)))|(apply vj;first|(apply jk;(iterate 11 exact rfl))|(apply zm;(iterate 11 exact rfl)))|(apply w8;first|apply qk|apply qo|apply qm|(apply zj;exact rfl;exact rfl)|(apply qf;exact rfl;apply xq;exact cAo)|(apply qf;exact rfl;apply x3;exact cAo)|(apply qf;exact rfl;apply qal;exact cRa)|(apply qf;exact rfl;apply qad;exact cRa)|(apply qf;exact rfl;apply pk_t;exact cRa)|(apply qf;exact rfl;apply pk_f;exact cRa)|(apply q9;exact rfl;exact rfl)|apply jg|(apply jj;exact rfl;exact rfl)|(apply vl;(iterate 4 exact rfl))|(apply kj;(iterate 3 exact rfl))|(apply j7;(iterate 3 exact rfl);exact cAs)|(apply ju;(iterate 3 exact rfl))|(apply zr;(iterate 9 exact rfl))|(apply zo;exact rfl;exact rfl)|(apply kf;(iterate 4 exact rfl);(first|assumption|omega|decide);exact rfl)|(apply z8;(iterate 4 exact rfl);first|assumption|omega|decide))|(apply qx;exact Tryz.call146;exact q1r xs p F cs _ hx hF hp))
 refine qq rfl (zf rfl) ⟨congrArg Bv (?_:_=_),_,rfl⟩
 have:=q32 xs p
 cases h:xs.any p <;> simp_all
theorem qrn {st l:List AObj} {o:Nat} {x:AObj} (h:st[o]? = some x):(st++l)[o]? = some x:=by
 rw [List.getElem?_append_left (lt_of_getElem? h)]
 exact h
theorem zbq (r:zz) (f:FldV) (st:List AObj) (o:Nat) (ho:st[o]? = some (.cells 0 86 (qkm r))) (h1:r.text.length<4294967281) (h2:f.2.length<4294967281):qp E 85 [fldA f,.bx o 0 0] st fun x st'=>x=Bv (!decide (y5 r f))∧st'=st:=by
 refine zi (qy _) (qt Tryz.func85 rfl (Nat.le_of_ble_eq_true rfl) ?_)
 repeat' (first|(apply w7;first|apply qr|apply ze|apply ql|(apply qc;exact rfl;apply wa;exact cAo)|(apply qc;exact rfl;apply wq;exact cAo)|(apply qc;exact rfl;apply yz;exact cRa)|(apply qc;exact rfl;apply qaa;exact cRa)|(apply qc;exact rfl;apply cd_n <;> intro h)|(apply qc;exact rfl;apply cd_t;exact cRa)|(apply qc;exact rfl;apply cd_f;exact cRa)|(apply qc;exact rfl;apply cd_d <;> intro h)|(apply qc;exact rfl;apply cd_s <;> intro h)|(apply w6;exact rfl;kernel_rfl)|apply q8|apply jq|apply zb)|(apply vh;first|(apply qv;(iterate 4 exact rfl))|(apply zt;(iterate 4 exact rfl)))|(apply xz;first|(apply v7;exact cAo)|(apply kg;exact cAo)|(apply j6;exact cAo)|(apply vz;exact cAo)|(apply vw;exact cRa)|(apply vv;exact cRa)|(apply vk;exact cRa)|(apply kq;exact cRa)|(apply kr <;> intro h)|(apply vr;exact cRa)|(apply wv;exact cRa)|(apply vq;exact cRa)|(apply ke;exact cRa)|(apply jo <;> intro h)|(apply wl <;> intro h))|(apply xy;first|apply yb|(apply xm;(iterate 4 exact rfl))|(apply yt;exact rfl;exact rfl;exact qn (by omega) (by omega))|(apply xo;(iterate 4 exact rfl);exact cAs;exact cAs)|(apply ka;(iterate 5 exact rfl))|(apply vp;exact rfl;exact rfl;exact cOs)|(apply kp;(iterate 3 exact rfl))|(apply j9;(iterate 5 exact rfl))|(apply jb;(iterate 4 exact rfl))|(apply ja;(iterate 3 exact rfl))|(apply yw;(iterate 3 exact rfl);exact cAs)|(apply xx;exact rfl;exact rfl)|(apply wy;exact rfl;exact rfl)|(apply wz;(iterate 3 exact rfl);omega)|(apply we;(iterate 3 exact rfl))|apply w9|apply vu|(apply yj;exact rfl;exact rfl;exact qn (by omega) (by omega))|(apply xw;(iterate 3 exact rfl))|(apply xp;(iterate 3 exact rfl);exact cAs)|(apply xl;(iterate 3 exact rfl);exact cAs)|(apply vf;exact rfl;exact rfl))|(apply vg;first|(apply qw;(iterate 3 exact rfl))|(apply jm;(iterate 3 exact rfl))|(apply jf;exact rfl;exact rfl;exact cOs)|(apply zp;exact rfl;exact rfl;exact qn (by omega) (by omega))|(apply kz;exact rfl;exact rfl;exact qn (by omega) (by omega))|(apply jc;exact rfl;exact rfl)|(apply jd;exact rfl;exact rfl)|(apply z7;exact rfl;exact rfl)|(apply jh;exact rfl;exact rfl)|(apply z4;(iterate 3 exact rfl))|(apply ji;(iterate 3 exact rfl))|(apply ve;exact rfl;exact rfl;(first|exact qi _|exact rfl);first|exact qi _|exact rfl)|(apply vb;exact rfl;exact rfl;(first|exact qi _|exact rfl);first|exact qi _|exact rfl)|(apply wd;exact rfl;exact rfl;(first|exact qi _|exact rfl);first|exact qi _|exact rfl)|(apply vc;(iterate 3 exact rfl))|(apply vd;(iterate 3 exact rfl)))|(apply wh;first|(apply zk;(iterate 3 exact rfl))|(apply jr;(iterate 5 exact rfl))|(apply zn;(iterate 5 exact rfl)))|(apply wi;first|(apply ko;exact rfl)|(apply jv;exact rfl)|(apply jx;exact rfl))|(apply vi;first|(apply vo;(iterate 3 exact rfl);exact cAs)|(apply vn;(iterate 3 exact rfl);exact cAs)|(apply va;(iterate 4 exact rfl);exact cAs;exact cAs)|(apply je;(iterate 4 exact rfl);(first|assumption|omega|exact Nat.succ_le_succ (Nat.zero_le _)|(simp;omega));exact rfl))|(apply wg;first|(apply zx;(iterate 3 exact rfl))|(apply zu;(iterate 4 exact rfl)))|(apply jl;first|(apply q5;(iterate 3 exact rfl))|(apply zg;(iterate 4 exact rfl)))|(apply vj;first|(apply jk;(iterate 11 exact rfl))|(apply zm;(iterate 11 exact rfl)))|(apply w8;first|apply qk|apply qo|apply qm|(apply zj;exact rfl;exact rfl)|(apply qf;exact rfl;apply xq;exact cAo)|(apply qf;exact rfl;apply x3;exact cAo)|(apply qf;exact rfl;apply qal;exact cRa)|(apply qf;exact rfl;apply qad;exact cRa)|(apply qf;exact rfl;apply pk_t;exact cRa)|(apply qf;exact rfl;apply pk_f;exact cRa)|(apply q9;exact rfl;exact rfl)|apply jg|(apply jj;exact rfl;exact rfl)|(apply vl;(iterate 4 exact rfl))|(apply kj;(iterate 3 exact rfl))|(apply j7;(iterate 3 exact rfl);exact cAs)|(apply ju;(iterate 3 exact rfl))|(apply zr;(iterate 9 exact rfl))|(apply zo;exact rfl;exact rfl)|(apply kf;(iterate 4 exact rfl);(first|assumption|omega|decide);exact rfl)|(apply z8;(iterate 4 exact rfl);first|assumption|omega|decide))|(apply ya;exact rfl;exact qrn ho;exact rfl;exact rfl)|(apply qx;exact Tryz.call86;exact zbb r f _ h1 h2))
 exact qq rfl (zf rfl) ⟨rfl,_,rfl⟩
def yc (r:zz) (xs:List FldV):Prop:=y0 r∧((r.kind=1∧(wo r.key xs).length=0)∨(r.kind=2∧1<(wo r.key xs).length)∨(r.kind≠1∧r.kind≠2∧xs.any (fun f=> !decide (y5 r f))=true))
instance (r:zz) (xs:List FldV):Decidable (yc r xs):=inferInstanceAs (Decidable (_∧(_∨_∨_)))
structure qem (r:zz):Prop where
 key:r.key.length<4294967281
 text:r.text.length<4294967281
structure qgs (xs:List FldV):Prop where
 len:xs.length<1000000
 val:∀ f∈xs,f.1.length<4294967281∧f.2.length<4294967281
theorem qjs (r:zz) (xs:List FldV) (st:List AObj) (hr:qem r) (hx:qgs xs):qp E 41 [wu r,kc xs] st fun x st'=>x=Bv (decide (yc r xs))∧st'=st:=by
 refine zi (qy _) (qt Tryz.func41 rfl (Nat.le_of_ble_eq_true rfl) ?_)
 have hl:=hx.len
 have hv:=qkv r.key xs
 repeat' (first|(apply w7;first|apply qr|apply ze|apply ql|(apply qc;exact rfl;apply wa;exact cAo)|(apply qc;exact rfl;apply wq;exact cAo)|(apply qc;exact rfl;apply yz;exact cRa)|(apply qc;exact rfl;apply qaa;exact cRa)|(apply qc;exact rfl;apply cd_n <;> intro h)|(apply qc;exact rfl;apply cd_t;exact cRa)|(apply qc;exact rfl;apply cd_f;exact cRa)|(apply qc;exact rfl;apply cd_d <;> intro h)|(apply qc;exact rfl;apply cd_s <;> intro h)|(apply w6;exact rfl;kernel_rfl)|apply q8|apply jq|apply zb)|(apply vh;first|(apply qv;(iterate 4 exact rfl))|(apply zt;(iterate 4 exact rfl)))|(apply xz;first|(apply v7;exact cAo)|(apply kg;exact cAo)|(apply j6;exact cAo)|(apply vz;exact cAo)|(apply vw;exact cRa)|(apply vv;exact cRa)|(apply vk;exact cRa)|(apply kq;exact cRa)|(apply kr <;> intro h)|(apply vr;exact cRa)|(apply wv;exact cRa)|(apply vq;exact cRa)|(apply ke;exact cRa)|(apply jo <;> intro h)|(apply wl <;> intro h))|(apply xy;first|apply yb|(apply xm;(iterate 4 exact rfl))|(apply yt;exact rfl;exact rfl;exact qn (by omega) (by omega))|(apply xo;(iterate 4 exact rfl);exact cAs;exact cAs)|(apply ka;(iterate 5 exact rfl))|(apply vp;exact rfl;exact rfl;exact cOs)|(apply kp;(iterate 3 exact rfl))|(apply j9;(iterate 5 exact rfl))|(apply jb;(iterate 4 exact rfl))|(apply ja;(iterate 3 exact rfl))|(apply yw;(iterate 3 exact rfl);exact cAs)|(apply xx;exact rfl;exact rfl)|(apply wy;exact rfl;exact rfl)|(apply wz;(iterate 3 exact rfl);omega)|(apply we;(iterate 3 exact rfl))|apply w9|apply vu|(apply yj;exact rfl;exact rfl;exact qn (by omega) (by omega))|(apply xw;(iterate 3 exact rfl))|(apply xp;(iterate 3 exact rfl);exact cAs)|(apply xl;(iterate 3 exact rfl);exact cAs)|(apply vf;exact rfl;exact rfl))|(apply vg;first|(apply qw;(iterate 3 exact rfl))|(apply jm;(iterate 3 exact rfl))|(apply jf;exact rfl;exact rfl;exact cOs)|(apply zp;exact rfl;exact rfl;exact qn (by omega) (by omega))|(apply kz;exact rfl;exact rfl;exact qn (by omega) (by omega))|(apply jc;exact rfl;exact rfl)|(apply jd;exact rfl;exact rfl)|(apply z7;exact rfl;exact rfl)|(apply jh;exact rfl;exact rfl)|(apply z4;(iterate 3 exact rfl))|(apply ji;(iterate 3 exact rfl))|(apply ve;exact rfl;exact rfl;(first|exact qi _|exact rfl);first|exact qi _|exact rfl)|(apply vb;exact rfl;exact rfl;(first|exact qi _|exact rfl);first|exact qi _|exact rfl)|(apply wd;exact rfl;exact rfl;(first|exact qi _|exact rfl);first|exact qi _|exact rfl)|(apply vc;(iterate 3 exact rfl))|(apply vd;(iterate 3 exact rfl)))|(apply wh;first|(apply zk;(iterate 3 exact rfl))|(apply jr;(iterate 5 exact rfl))|(apply zn;(iterate 5 exact rfl)))|(apply wi;first|(apply ko;exact rfl)|(apply jv;exact rfl)|(apply jx;exact rfl))|(apply vi;first|(apply vo;(iterate 3 exact rfl);exact cAs)|(apply vn;(iterate 3 exact rfl);exact cAs)|(apply va;(iterate 4 exact rfl);exact cAs;exact cAs)|(apply je;(iterate 4 exact rfl);(first|assumption|omega|exact Nat.succ_le_succ (Nat.zero_le _)|(simp;omega));exact rfl))|(apply wg;first|(apply zx;(iterate 3 exact rfl))|(apply zu;(iterate 4 exact rfl)))|(apply jl;first|(apply q5;(iterate 3 exact rfl))|(apply zg;(iterate 4 exact rfl)))|(apply vj;first|(apply jk;(iterate 11 exact rfl))|(apply zm;(iterate 11 exact rfl)))|(apply w8;first|apply qk|apply qo|apply qm|(apply zj;exact rfl;exact rfl)|(apply qf;exact rfl;apply xq;exact cAo)|(apply qf;exact rfl;apply x3;exact cAo)|(apply qf;exact rfl;apply qal;exact cRa)|(apply qf;exact rfl;apply qad;exact cRa)|(apply qf;exact rfl;apply pk_t;exact cRa)|(apply qf;exact rfl;apply pk_f;exact cRa)|(apply q9;exact rfl;exact rfl)|apply jg|(apply jj;exact rfl;exact rfl)|(apply vl;(iterate 4 exact rfl))|(apply kj;(iterate 3 exact rfl))|(apply j7;(iterate 3 exact rfl);exact cAs)|(apply ju;(iterate 3 exact rfl))|(apply zr;(iterate 9 exact rfl))|(apply zo;exact rfl;exact rfl)|(apply kf;(iterate 4 exact rfl);(first|assumption|omega|decide);exact rfl)|(apply z8;(iterate 4 exact rfl);first|assumption|omega|decide))|(apply qx;exact Tryz.call50;exact qmn r _ hr.key)|(apply qx;exact Tryz.call83;exact qyb r.key xs _ (by omega))|(apply zu;exact rfl;exact congrArg some List.length_map;exact rfl;exact rfl)|(apply qx;exact Tryz.call84;exact qt3 xs (fun f=> !decide (y5 r f)) _ _ _ (by omega) Tryz.call85 (fun f hf=>zbq r f _ _ (by exact qrn (qrn (qbe rfl))) hr.text (hx.val f hf).2)))
 all_goals refine qq rfl (zf rfl) ⟨congrArg Bv (?_:_=_),_,rfl⟩
 ·simp_all [yc]
 ·simp_all [yc]
 ·simp_all [yc]
  omega
 ·have e:yc r xs↔(xs.any fun f=> !decide (y5 r f))=true:=by
   constructor
   ·rintro⟨_,h|h|h⟩
    ·omega
    ·omega
    ·exact h.2.2
   ·intro h
    exact⟨of_decide_eq_true (by assumption),.inr (.inr ⟨by assumption,by assumption,h⟩)⟩
  cases he:(xs.any fun f=> !decide (y5 r f))
  ·exact (decide_eq_false fun h=>by rw [e,he] at h;cases h).symm
  ·exact (decide_eq_true (e.2 he)).symm
theorem q39 (r:zz):y0 r↔(r.kind=6∨(1≤r.kind∧r.kind≤7∧qau r.key)):=by
 unfold y0
 constructor
 ·rintro⟨a,b,c|c⟩
  ·exact .inl c
  ·exact .inr ⟨a,b,c⟩
 ·rintro (c | ⟨a,b,c⟩)
  ·exact⟨by omega,by omega,.inl c⟩
  ·exact⟨a,b,.inr c⟩
theorem qno (r:zz) (st:List AObj) (hl:r.key.length<4294967281):qp E 81 [wu r] st fun x st'=>x=Bv (decide (y0 r))∧st'=st:=by
 refine zi (qy _) (qt Tryz.func81 rfl (Nat.le_of_ble_eq_true rfl) ?_)
 repeat' (first|(apply w7;first|apply qr|apply ze|apply ql|(apply qc;exact rfl;apply wa;exact cAo)|(apply qc;exact rfl;apply wq;exact cAo)|(apply qc;exact rfl;apply yz;exact cRa)|(apply qc;exact rfl;apply qaa;exact cRa)|(apply qc;exact rfl;apply cd_n <;> intro h)|(apply qc;exact rfl;apply cd_t;exact cRa)|(apply qc;exact rfl;apply cd_f;exact cRa)|(apply qc;exact rfl;apply cd_d <;> intro h)|(apply qc;exact rfl;apply cd_s <;> intro h)|(apply w6;exact rfl;kernel_rfl)|apply q8|apply jq|apply zb)|(apply vh;first|(apply qv;(iterate 4 exact rfl))|(apply zt;(iterate 4 exact rfl)))|(apply xz;first|(apply v7;exact cAo)|(apply kg;exact cAo)|(apply j6;exact cAo)|(apply vz;exact cAo)|(apply vw;exact cRa)|(apply vv;exact cRa)|(apply vk;exact cRa)|(apply kq;exact cRa)|(apply kr <;> intro h)|(apply vr;exact cRa)|(apply wv;exact cRa)|(apply vq;exact cRa)|(apply ke;exact cRa)|(apply jo <;> intro h)|(apply wl <;> intro h))|(apply xy;first|apply yb|(apply xm;(iterate 4 exact rfl))|(apply yt;exact rfl;exact rfl;exact qn (by omega) (by omega))|(apply xo;(iterate 4 exact rfl);exact cAs;exact cAs)|(apply ka;(iterate 5 exact rfl))|(apply vp;exact rfl;exact rfl;exact cOs)|(apply kp;(iterate 3 exact rfl))|(apply j9;(iterate 5 exact rfl))|(apply jb;(iterate 4 exact rfl))|(apply ja;(iterate 3 exact rfl))|(apply yw;(iterate 3 exact rfl);exact cAs)|(apply xx;exact rfl;exact rfl)|(apply wy;exact rfl;exact rfl)|(apply wz;(iterate 3 exact rfl);omega)|(apply we;(iterate 3 exact rfl))|apply w9|apply vu|(apply yj;exact rfl;exact rfl;exact qn (by omega) (by omega))|(apply xw;(iterate 3 exact rfl))|(apply xp;(iterate 3 exact rfl);exact cAs)|(apply xl;(iterate 3 exact rfl);exact cAs)|(apply vf;exact rfl;exact rfl))|(apply vg;first|(apply qw;(iterate 3 exact rfl))|(apply jm;(iterate 3 exact rfl))|(apply jf;exact rfl;exact rfl;exact cOs)|(apply zp;exact rfl;exact rfl;exact qn (by omega) (by omega))|(apply kz;exact rfl;exact rfl;exact qn (by omega) (by omega))|(apply jc;exact rfl;exact rfl)|(apply jd;exact rfl;exact rfl)|(apply z7;exact rfl;exact rfl)|(apply jh;exact rfl;exact rfl)|(apply z4;(iterate 3 exact rfl))|(apply ji;(iterate 3 exact rfl))|(apply ve;exact rfl;exact rfl;(first|exact qi _|exact rfl);first|exact qi _|exact rfl)|(apply vb;exact rfl;exact rfl;(first|exact qi _|exact rfl);first|exact qi _|exact rfl)|(apply wd;exact rfl;exact rfl;(first|exact qi _|exact rfl);first|exact qi _|exact rfl)|(apply vc;(iterate 3 exact rfl))|(apply vd;(iterate 3 exact rfl)))|(apply wh;first|(apply zk;(iterate 3 exact rfl))|(apply jr;(iterate 5 exact rfl))|(apply zn;(iterate 5 exact rfl)))|(apply wi;first|(apply ko;exact rfl)|(apply jv;exact rfl)|(apply jx;exact rfl))|(apply vi;first|(apply vo;(iterate 3 exact rfl);exact cAs)|(apply vn;(iterate 3 exact rfl);exact cAs)|(apply va;(iterate 4 exact rfl);exact cAs;exact cAs)|(apply je;(iterate 4 exact rfl);(first|assumption|omega|exact Nat.succ_le_succ (Nat.zero_le _)|(simp;omega));exact rfl))|(apply wg;first|(apply zx;(iterate 3 exact rfl))|(apply zu;(iterate 4 exact rfl)))|(apply jl;first|(apply q5;(iterate 3 exact rfl))|(apply zg;(iterate 4 exact rfl)))|(apply vj;first|(apply jk;(iterate 11 exact rfl))|(apply zm;(iterate 11 exact rfl)))|(apply w8;first|apply qk|apply qo|apply qm|(apply zj;exact rfl;exact rfl)|(apply qf;exact rfl;apply xq;exact cAo)|(apply qf;exact rfl;apply x3;exact cAo)|(apply qf;exact rfl;apply qal;exact cRa)|(apply qf;exact rfl;apply qad;exact cRa)|(apply qf;exact rfl;apply pk_t;exact cRa)|(apply qf;exact rfl;apply pk_f;exact cRa)|(apply q9;exact rfl;exact rfl)|apply jg|(apply jj;exact rfl;exact rfl)|(apply vl;(iterate 4 exact rfl))|(apply kj;(iterate 3 exact rfl))|(apply j7;(iterate 3 exact rfl);exact cAs)|(apply ju;(iterate 3 exact rfl))|(apply zr;(iterate 9 exact rfl))|(apply zo;exact rfl;exact rfl)|(apply kf;(iterate 4 exact rfl);(first|assumption|omega|decide);exact rfl)|(apply z8;(iterate 4 exact rfl);first|assumption|omega|decide))|(apply qx;exact Tryz.call143;exact qoq _ _ hl))
 all_goals refine qq rfl (zf rfl) ⟨congrArg Bv (?_:_=decide (y0 r)),_,rfl⟩
 all_goals have e:=q39 r
 all_goals (simp_all <;> omega)
theorem za0 {l:qe} {f k:Nat} (h:f≤k) (hk:k≤l.length):l.drop f=(l.take k).drop f++l.drop k:=by
 conv=>lhs;rw [← List.take_append_drop k l]
 rw [List.drop_append_of_le_length (by simp;omega)]
theorem q8f {l:qe} {f k:Nat} (h:f≤k) (hk:k<l.length):(l.take (k+1)).drop f=(l.take k).drop f++[l.getD k 0]:=by
 rw [List.take_succ_eq_append_getElem hk,List.drop_append_of_le_length (by simp;omega)]
 simp [List.getD,hk]
theorem qqp {l:qe} {f k:Nat} (h:f≤k) (hk:k=l.length) (hn:10∉(l.take k).drop f):qu (l.drop f)=[(l.take k).drop f]:=by
 subst hk
 rw [List.take_length] at hn ⊢
 exact qak hn
theorem qqq {l:qe} {f k:Nat} (h:f≤k) (hk:k<l.length) (hc:l.getD k 0=10) (hn:10∉(l.take k).drop f):qu (l.drop f)=(l.take k).drop f::qu (l.drop (k+1)):=by
 have e:l.drop f=(l.take k).drop f++10::l.drop (k+1):=by
  rw [za0 h (by omega),List.drop_eq_getElem_cons hk]
  have:l[k]=10:=by simpa [List.getD,hk] using hc
  rw [this]
 rw [e,qaj (by simp),qa9 _ hn,qbx _ hn]
theorem qns (l w:List UInt8) (st:List AObj) (hl:l.length<4294967281):qp E 144 [Sv l,Sv w] st fun r st'=>r=Bv (decide (w∈yp l))∧st'=st:=by
 refine zi (qy _) (qt Tryz.func144 rfl (Nat.le_of_ble_eq_true rfl) ?_)
 repeat' (first|(apply w7;first|apply qr|apply ze|apply ql|(apply qc;exact rfl;apply wa;exact cAo)|(apply qc;exact rfl;apply wq;exact cAo)|(apply qc;exact rfl;apply yz;exact cRa)|(apply qc;exact rfl;apply qaa;exact cRa)|(apply qc;exact rfl;apply cd_n <;> intro h)|(apply qc;exact rfl;apply cd_t;exact cRa)|(apply qc;exact rfl;apply cd_f;exact cRa)|(apply qc;exact rfl;apply cd_d <;> intro h)|(apply qc;exact rfl;apply cd_s <;> intro h)|(apply w6;exact rfl;kernel_rfl)|apply q8|apply jq|apply zb)|(apply vh;first|(apply qv;(iterate 4 exact rfl))|(apply zt;(iterate 4 exact rfl)))|(apply xz;first|(apply v7;exact cAo)|(apply kg;exact cAo)|(apply j6;exact cAo)|(apply vz;exact cAo)|(apply vw;exact cRa)|(apply vv;exact cRa)|(apply vk;exact cRa)|(apply kq;exact cRa)|(apply kr <;> intro h)|(apply vr;exact cRa)|(apply wv;exact cRa)|(apply vq;exact cRa)|(apply ke;exact cRa)|(apply jo <;> intro h)|(apply wl <;> intro h))|(apply xy;first|apply yb|(apply xm;(iterate 4 exact rfl))|(apply yt;exact rfl;exact rfl;exact qn (by omega) (by omega))|(apply xo;(iterate 4 exact rfl);exact cAs;exact cAs)|(apply ka;(iterate 5 exact rfl))|(apply vp;exact rfl;exact rfl;exact cOs)|(apply kp;(iterate 3 exact rfl))|(apply j9;(iterate 5 exact rfl))|(apply jb;(iterate 4 exact rfl))|(apply ja;(iterate 3 exact rfl))|(apply yw;(iterate 3 exact rfl);exact cAs)|(apply xx;exact rfl;exact rfl)|(apply wy;exact rfl;exact rfl)|(apply wz;(iterate 3 exact rfl);omega)|(apply we;(iterate 3 exact rfl))|apply w9|apply vu|(apply yj;exact rfl;exact rfl;exact qn (by omega) (by omega))|(apply xw;(iterate 3 exact rfl))|(apply xp;(iterate 3 exact rfl);exact cAs)|(apply xl;(iterate 3 exact rfl);exact cAs)|(apply vf;exact rfl;exact rfl))|(apply vg;first|(apply qw;(iterate 3 exact rfl))|(apply jm;(iterate 3 exact rfl))|(apply jf;exact rfl;exact rfl;exact cOs)|(apply zp;exact rfl;exact rfl;exact qn (by omega) (by omega))|(apply kz;exact rfl;exact rfl;exact qn (by omega) (by omega))|(apply jc;exact rfl;exact rfl)|(apply jd;exact rfl;exact rfl)|(apply z7;exact rfl;exact rfl)|(apply jh;exact rfl;exact rfl)|(apply z4;(iterate 3 exact rfl))|(apply ji;(iterate 3 exact rfl))|(apply ve;exact rfl;exact rfl;(first|exact qi _|exact rfl);first|exact qi _|exact rfl)|(apply vb;exact rfl;exact rfl;(first|exact qi _|exact rfl);first|exact qi _|exact rfl)|(apply wd;exact rfl;exact rfl;(first|exact qi _|exact rfl);first|exact qi _|exact rfl)|(apply vc;(iterate 3 exact rfl))|(apply vd;(iterate 3 exact rfl)))|(apply wh;first|(apply zk;(iterate 3 exact rfl))|(apply jr;(iterate 5 exact rfl))|(apply zn;(iterate 5 exact rfl)))|(apply wi;first|(apply ko;exact rfl)|(apply jv;exact rfl)|(apply jx;exact rfl))|(apply vi;first|(apply vo;(iterate 3 exact rfl);exact cAs)|(apply vn;(iterate 3 exact rfl);exact cAs)|(apply va;(iterate 4 exact rfl);exact cAs;exact cAs)|(apply je;(iterate 4 exact rfl);(first|assumption|omega|exact Nat.succ_le_succ (Nat.zero_le _)|(simp;omega));exact rfl))|(apply wg;first|(apply zx;(iterate 3 exact rfl))|(apply zu;(iterate 4 exact rfl)))|(apply jl;first|(apply q5;(iterate 3 exact rfl))|(apply zg;(iterate 4 exact rfl)))|(apply vj;first|(apply jk;(iterate 11 exact rfl))|(apply zm;(iterate 11 exact rfl)))|(apply w8;first|apply qk|apply qo|apply qm|(apply zj;exact rfl;exact rfl)|(apply qf;exact rfl;apply xq;exact cAo)|(apply qf;exact rfl;apply x3;exact cAo)|(apply qf;exact rfl;apply qal;exact cRa)|(apply qf;exact rfl;apply qad;exact cRa)|(apply qf;exact rfl;apply pk_t;exact cRa)|(apply qf;exact rfl;apply pk_f;exact cRa)|(apply q9;exact rfl;exact rfl)|apply jg|(apply jj;exact rfl;exact rfl)|(apply vl;(iterate 4 exact rfl))|(apply kj;(iterate 3 exact rfl))|(apply j7;(iterate 3 exact rfl);exact cAs)|(apply ju;(iterate 3 exact rfl))|(apply zr;(iterate 9 exact rfl))|(apply zo;exact rfl;exact rfl)|(apply kf;(iterate 4 exact rfl);(first|assumption|omega|decide);exact rfl)|(apply z8;(iterate 4 exact rfl);first|assumption|omega|decide)))
 ·refine qq rfl (zf rfl) ⟨congrArg Bv (?_:_=decide (w∈yp l)),_,rfl⟩
  unfold yp
  simp_all
 have hne:¬ l=[]:=by assumption
 have hw:yp l=qu l:=by unfold yp;rw [if_neg hne]
 refine yl (fun (x:Nat×Nat) s=>x.2≤l.length+1∧(x.2≤l.length→x.1≤x.2∧10∉(l.take x.2).drop x.1∧(w∈qu l↔w∈qu (l.drop x.1)))∧(x.2=l.length+1→w∉qu l)∧StA [(0,Sv l),(1,Sv w),(5,Iv x.1),(6,Iv x.2)] (st++[]) [] s) (fun x=>l.length+1 - x.2) (0,0) ⟨by omega,fun _=>⟨by omega,by simp,by simp⟩,by simp,v6 ⟨rfl,rfl,rfl,rfl,trivial⟩⟩ ?_
 rintro⟨f,k⟩ _ ⟨hk,h1,h2,t,rfl⟩
 simp only at hk h1 h2 ⊢
 rcases Nat.lt_or_ge l.length k with hc|hc
 ·skip
  repeat' (first|(apply w7;first|apply qr|apply ze|apply ql|(apply qc;exact rfl;apply wa;exact cAo)|(apply qc;exact rfl;apply wq;exact cAo)|(apply qc;exact rfl;apply yz;exact cRa)|(apply qc;exact rfl;apply qaa;exact cRa)|(apply qc;exact rfl;apply cd_n <;> intro h)|(apply qc;exact rfl;apply cd_t;exact cRa)|(apply qc;exact rfl;apply cd_f;exact cRa)|(apply qc;exact rfl;apply cd_d <;> intro h)|(apply qc;exact rfl;apply cd_s <;> intro h)|(apply w6;exact rfl;kernel_rfl)|apply q8|apply jq|apply zb)|(apply vh;first|(apply qv;(iterate 4 exact rfl))|(apply zt;(iterate 4 exact rfl)))|(apply xz;first|(apply v7;exact cAo)|(apply kg;exact cAo)|(apply j6;exact cAo)|(apply vz;exact cAo)|(apply vw;exact cRa)|(apply vv;exact cRa)|(apply vk;exact cRa)|(apply kq;exact cRa)|(apply kr <;> intro h)|(apply vr;exact cRa)|(apply wv;exact cRa)|(apply vq;exact cRa)|(apply ke;exact cRa)|(apply jo <;> intro h)|(apply wl <;> intro h))|(apply xy;first|apply yb|(apply xm;(iterate 4 exact rfl))|(apply yt;exact rfl;exact rfl;exact qn (by omega) (by omega))|(apply xo;(iterate 4 exact rfl);exact cAs;exact cAs)|(apply ka;(iterate 5 exact rfl))|(apply vp;exact rfl;exact rfl;exact cOs)|(apply kp;(iterate 3 exact rfl))|(apply j9;(iterate 5 exact rfl))|(apply jb;(iterate 4 exact rfl))|(apply ja;(iterate 3 exact rfl))|(apply yw;(iterate 3 exact rfl);exact cAs)|(apply xx;exact rfl;exact rfl)|(apply wy;exact rfl;exact rfl)|(apply wz;(iterate 3 exact rfl);omega)|(apply we;(iterate 3 exact rfl))|apply w9|apply vu|(apply yj;exact rfl;exact rfl;exact qn (by omega) (by omega))|(apply xw;(iterate 3 exact rfl))|(apply xp;(iterate 3 exact rfl);exact cAs)|(apply xl;(iterate 3 exact rfl);exact cAs)|(apply vf;exact rfl;exact rfl))|(apply vg;first|(apply qw;(iterate 3 exact rfl))|(apply jm;(iterate 3 exact rfl))|(apply jf;exact rfl;exact rfl;exact cOs)|(apply zp;exact rfl;exact rfl;exact qn (by omega) (by omega))|(apply kz;exact rfl;exact rfl;exact qn (by omega) (by omega))|(apply jc;exact rfl;exact rfl)|(apply jd;exact rfl;exact rfl)|(apply z7;exact rfl;exact rfl)|(apply jh;exact rfl;exact rfl)|(apply z4;(iterate 3 exact rfl))|(apply ji;(iterate 3 exact rfl))|(apply ve;exact rfl;exact rfl;(first|exact qi _|exact rfl);first|exact qi _|exact rfl)|(apply vb;exact rfl;exact rfl;(first|exact qi _|exact rfl);first|exact qi _|exact rfl)|(apply wd;exact rfl;exact rfl;(first|exact qi _|exact rfl);first|exact qi _|exact rfl)|(apply vc;(iterate 3 exact rfl))|(apply vd;(iterate 3 exact rfl)))|(apply wh;first|(apply zk;(iterate 3 exact rfl))|(apply jr;(iterate 5 exact rfl))|(apply zn;(iterate 5 exact rfl)))|(apply wi;first|(apply ko;exact rfl)|(apply jv;exact rfl)|(apply jx;exact rfl))|(apply vi;first|(apply vo;(iterate 3 exact rfl);exact cAs)|(apply vn;(iterate 3 exact rfl);exact cAs)|(apply va;(iterate 4 exact rfl);exact cAs;exact cAs)|(apply je;(iterate 4 exact rfl);(first|assumption|omega|exact Nat.succ_le_succ (Nat.zero_le _)|(simp;omega));exact rfl))|(apply wg;first|(apply zx;(iterate 3 exact rfl))|(apply zu;(iterate 4 exact rfl)))|(apply jl;first|(apply q5;(iterate 3 exact rfl))|(apply zg;(iterate 4 exact rfl)))|(apply vj;first|(apply jk;(iterate 11 exact rfl))|(apply zm;(iterate 11 exact rfl)))|(apply w8;first|apply qk|apply qo|apply qm|(apply zj;exact rfl;exact rfl)|(apply qf;exact rfl;apply xq;exact cAo)|(apply qf;exact rfl;apply x3;exact cAo)|(apply qf;exact rfl;apply qal;exact cRa)|(apply qf;exact rfl;apply qad;exact cRa)|(apply qf;exact rfl;apply pk_t;exact cRa)|(apply qf;exact rfl;apply pk_f;exact cRa)|(apply q9;exact rfl;exact rfl)|apply jg|(apply jj;exact rfl;exact rfl)|(apply vl;(iterate 4 exact rfl))|(apply kj;(iterate 3 exact rfl))|(apply j7;(iterate 3 exact rfl);exact cAs)|(apply ju;(iterate 3 exact rfl))|(apply zr;(iterate 9 exact rfl))|(apply zo;exact rfl;exact rfl)|(apply kf;(iterate 4 exact rfl);(first|assumption|omega|decide);exact rfl)|(apply z8;(iterate 4 exact rfl);first|assumption|omega|decide)))
  refine qq rfl (zf rfl) ⟨congrArg Bv (?_:_=decide (w∈yp l)),_,rfl⟩
  rw [hw]
  exact (decide_eq_false (h2 (by omega))).symm
 ·obtain⟨a1,a2,a3⟩:=h1 hc
  repeat' (first|(apply w7;first|apply qr|apply ze|apply ql|(apply qc;exact rfl;apply wa;exact cAo)|(apply qc;exact rfl;apply wq;exact cAo)|(apply qc;exact rfl;apply yz;exact cRa)|(apply qc;exact rfl;apply qaa;exact cRa)|(apply qc;exact rfl;apply cd_n <;> intro h)|(apply qc;exact rfl;apply cd_t;exact cRa)|(apply qc;exact rfl;apply cd_f;exact cRa)|(apply qc;exact rfl;apply cd_d <;> intro h)|(apply qc;exact rfl;apply cd_s <;> intro h)|(apply w6;exact rfl;kernel_rfl)|apply q8|apply jq|apply zb)|(apply vh;first|(apply qv;(iterate 4 exact rfl))|(apply zt;(iterate 4 exact rfl)))|(apply xz;first|(apply v7;exact cAo)|(apply kg;exact cAo)|(apply j6;exact cAo)|(apply vz;exact cAo)|(apply vw;exact cRa)|(apply vv;exact cRa)|(apply vk;exact cRa)|(apply kq;exact cRa)|(apply kr <;> intro h)|(apply vr;exact cRa)|(apply wv;exact cRa)|(apply vq;exact cRa)|(apply ke;exact cRa)|(apply jo <;> intro h)|(apply wl <;> intro h))|(apply xy;first|apply yb|(apply xm;(iterate 4 exact rfl))|(apply yt;exact rfl;exact rfl;exact qn (by omega) (by omega))|(apply xo;(iterate 4 exact rfl);exact cAs;exact cAs)|(apply ka;(iterate 5 exact rfl))|(apply vp;exact rfl;exact rfl;exact cOs)|(apply kp;(iterate 3 exact rfl))|(apply j9;(iterate 5 exact rfl))|(apply jb;(iterate 4 exact rfl))|(apply ja;(iterate 3 exact rfl))|(apply yw;(iterate 3 exact rfl);exact cAs)|(apply xx;exact rfl;exact rfl)|(apply wy;exact rfl;exact rfl)|(apply wz;(iterate 3 exact rfl);omega)|(apply we;(iterate 3 exact rfl))|apply w9|apply vu|(apply yj;exact rfl;exact rfl;exact qn (by omega) (by omega))|(apply xw;(iterate 3 exact rfl))|(apply xp;(iterate 3 exact rfl);exact cAs)|(apply xl;(iterate 3 exact rfl);exact cAs)|(apply vf;exact rfl;exact rfl))|(apply vg;first|(apply qw;(iterate 3 exact rfl))|(apply jm;(iterate 3 exact rfl))|(apply jf;exact rfl;exact rfl;exact cOs)|(apply zp;exact rfl;exact rfl;exact qn (by omega) (by omega))|(apply kz;exact rfl;exact rfl;exact qn (by omega) (by omega))|(apply jc;exact rfl;exact rfl)|(apply jd;exact rfl;exact rfl)|(apply z7;exact rfl;exact rfl)|(apply jh;exact rfl;exact rfl)|(apply z4;(iterate 3 exact rfl))|(apply ji;(iterate 3 exact rfl))|(apply ve;exact rfl;exact rfl;(first|exact qi _|exact rfl);first|exact qi _|exact rfl)|(apply vb;exact rfl;exact rfl;(first|exact qi _|exact rfl);first|exact qi _|exact rfl)|(apply wd;exact rfl;exact rfl;(first|exact qi _|exact rfl);first|exact qi _|exact rfl)|(apply vc;(iterate 3 exact rfl))|(apply vd;(iterate 3 exact rfl)))|(apply wh;first|(apply zk;(iterate 3 exact rfl))|(apply jr;(iterate 5 exact rfl))|(apply zn;(iterate 5 exact rfl)))|(apply wi;first|(apply ko;exact rfl)|(apply jv;exact rfl)|(apply jx;exact rfl))|(apply vi;first|(apply vo;(iterate 3 exact rfl);exact cAs)|(apply vn;(iterate 3 exact rfl);exact cAs)|(apply va;(iterate 4 exact rfl);exact cAs;exact cAs)|(apply je;(iterate 4 exact rfl);(first|assumption|omega|exact Nat.succ_le_succ (Nat.zero_le _)|(simp;omega));exact rfl))|(apply wg;first|(apply zx;(iterate 3 exact rfl))|(apply zu;(iterate 4 exact rfl)))|(apply jl;first|(apply q5;(iterate 3 exact rfl))|(apply zg;(iterate 4 exact rfl)))|(apply vj;first|(apply jk;(iterate 11 exact rfl))|(apply zm;(iterate 11 exact rfl)))|(apply w8;first|apply qk|apply qo|apply qm|(apply zj;exact rfl;exact rfl)|(apply qf;exact rfl;apply xq;exact cAo)|(apply qf;exact rfl;apply x3;exact cAo)|(apply qf;exact rfl;apply qal;exact cRa)|(apply qf;exact rfl;apply qad;exact cRa)|(apply qf;exact rfl;apply pk_t;exact cRa)|(apply qf;exact rfl;apply pk_f;exact cRa)|(apply q9;exact rfl;exact rfl)|apply jg|(apply jj;exact rfl;exact rfl)|(apply vl;(iterate 4 exact rfl))|(apply kj;(iterate 3 exact rfl))|(apply j7;(iterate 3 exact rfl);exact cAs)|(apply ju;(iterate 3 exact rfl))|(apply zr;(iterate 9 exact rfl))|(apply zo;exact rfl;exact rfl)|(apply kf;(iterate 4 exact rfl);(first|assumption|omega|decide);exact rfl)|(apply z8;(iterate 4 exact rfl);first|assumption|omega|decide)))
  ·refine qq rfl (zf rfl) ⟨congrArg Bv (?_:_=decide (w∈yp l)),_,rfl⟩
   refine (decide_eq_true ?_).symm
   rw [hw,a3,qqp a1 (by omega) a2]
   simp_all
  ·refine⟨(k+1,k+1),⟨by simp only;omega,fun h=>absurd h (by simp only;omega),fun _ h=>?_,v6 ⟨rfl,rfl,rfl,rfl,trivial⟩⟩,by simp only;omega⟩
   rw [a3,qqp a1 (by omega) a2] at h
   simp_all
  ·refine qq rfl (zf rfl) ⟨congrArg Bv (?_:_=decide (w∈yp l)),_,rfl⟩
   refine (decide_eq_true ?_).symm
   rw [hw,a3,qqq a1 (by omega) ((qdi _).1 (by assumption)) a2]
   simp_all
  ·have a4:=qqq a1 (by omega) ((qdi _).1 (by assumption)) a2
   refine⟨(k+1,k+1),⟨by simp only;omega,fun h=>⟨by simp only;omega,by simp,?_⟩,fun h=>absurd h (by simp only;omega),v6 ⟨rfl,rfl,rfl,rfl,trivial⟩⟩,by simp only;omega⟩
   rw [a3,a4,List.mem_cons]
   exact⟨fun h=>h.resolve_left (fun e=>absurd e.symm (by assumption)),.inr⟩
  ·refine⟨(f,k+1),⟨by simp only;omega,fun h=>⟨by simp only;omega,?_,a3⟩,fun h=>absurd h (by simp only;omega),v6 ⟨rfl,rfl,rfl,rfl,trivial⟩⟩,by simp only;omega⟩
   simp only
   rw [q8f a1 (by omega),List.mem_append,List.mem_singleton]
   rintro (h|h)
   ·exact a2 h
   ·exact absurd ((qdi _).2 h.symm) (by assumption)
def badR (r:zz) (f:FldV):Bool:= !decide (y5 r f)
def cntR (r:zz) (xs:List FldV):Nat:=if r.kind=6 then 0 else (wo r.key xs).length
theorem q6s {r:zz} {xs:List FldV} {k:Nat} (hk:k<xs.length):cntR r (xs.take (k+1))=cntR r (xs.take k)+if r.kind≠6∧(xs.getD k ([],[])).1=r.key then 1 else 0:=by
 unfold cntR
 by_cases h6:r.kind=6
 ·simp [h6]
 ·rw [if_neg h6,if_neg h6,qge hk,List.length_append]
  by_cases h:(xs.getD k ([],[])).1=r.key
  ·rw [if_pos h,if_pos ⟨h6,h⟩];rfl
  ·rw [if_neg h,if_neg (fun e=>h e.2)];rfl
theorem bad6 {r:zz} {f:FldV} (h:r.kind=6):badR r f = !decide (f.1∈yp r.text):=by
 have e:y5 r f↔f.1∈yp r.text:=by simp [y5,h]
 unfold badR
 simp only [e]
theorem bad4 {r:zz} {f:FldV} (h:r.kind=4) (h2:f.1=r.key):badR r f = !decide (f.2∈yp r.text):=by
 have e:y5 r f↔f.2∈yp r.text:=by simp [y5,h,h2]
 unfold badR
 simp only [e]
theorem bad5 {r:zz} {f:FldV} (h:r.kind=5) (h2:f.1=r.key) (h3:¬ (f.2.length:Int)<r.lo):badR r f=decide (r.hi<(f.2.length:Int)):=by
 have e:y5 r f↔(f.2.length:Int)≤r.hi:=by
  simp only [y5,h,h2,qda]
  constructor
  ·intro h';exact (h'.2.2.1 trivial trivial).2
  ·intro h';exact⟨fun h=>by omega,fun h=>by omega,fun _ _=>⟨by omega,h'⟩,fun h=>by omega⟩
 unfold badR
 rw [← decide_not]
 have e2:(¬ y5 r f)↔r.hi<(f.2.length:Int):=by rw [e];omega
 simp only [e2]
theorem bad3 {r:zz} {f:FldV} {v:Int} (h:r.kind=3) (h2:f.1=r.key) (hz:numZ f.2=some v) (h3:¬ v<r.lo):badR r f=decide (r.hi<v):=by
 have e:y5 r f↔v≤r.hi:=by
  simp only [y5,h,h2,qda,qe8,hz]
  constructor
  ·intro h'
   obtain⟨n,e1,e2,e3⟩:=h'.1 trivial trivial
   cases e1
   exact e3
  ·intro h';exact⟨fun _ _=>⟨v,rfl,by omega,h'⟩,fun h=>by omega,fun h=>by omega,fun h=>by omega⟩
 unfold badR
 rw [← decide_not]
 have e2:(¬ y5 r f)↔r.hi<v:=by rw [e];omega
 simp only [e2]
theorem qml {r:zz} {xs:List FldV} (h:r.kind≠6):cntR r xs=(wo r.key xs).length:=if_neg h
theorem q6m {r:zz} {xs:List FldV} (h7:r.kind≠7):yc r xs↔y0 r∧(xs.any (badR r)=true∨(r.kind=1∧cntR r xs=0)∨(r.kind=2∧1<cntR r xs)):=by
 have h12:(r.kind=1∨r.kind=2)→xs.any (badR r)=false:=by
  intro h
  rw [List.any_eq_false]
  intro f _
  have:y5 r f:=⟨fun _=>by omega,fun _=>by omega,fun _=>by omega,fun _=>by omega⟩
  simp [badR,this]
 unfold yc
 constructor
 ·rintro⟨hg,h|h|h⟩
  ·exact⟨hg,.inr (.inl ⟨h.1,by rw [qml (by omega)];exact h.2⟩)⟩
  ·exact⟨hg,.inr (.inr ⟨h.1,by rw [qml (by omega)];exact h.2⟩)⟩
  ·exact⟨hg,.inl h.2.2⟩
 ·rintro⟨hg,h|h|h⟩
  ·by_cases h1:r.kind=1∨r.kind=2
   ·rw [h12 h1] at h;cases h
   ·exact⟨hg,.inr (.inr ⟨fun e=>h1 (.inl e),fun e=>h1 (.inr e),h⟩)⟩
  ·exact⟨hg,.inl ⟨h.1,by rw [← qml (by omega)];exact h.2⟩⟩
  ·exact⟨hg,.inr (.inl ⟨h.1,by rw [← qml (by omega)];exact h.2⟩)⟩
def qeu:qe:=[83,105,122,101]
def qec:zz:=⟨3,qeu,[],0,9⟩
theorem zb7:y0 qec:=by decide +kernel
theorem brx1:yc qec [(qeu,[49,48])]:=by decide +kernel
theorem brx2:yc qec [(qeu,[48,55])]:=by decide +kernel
theorem brx3:¬ yc qec [(qeu,[55])]:=by decide +kernel
theorem rb_x:qem qec:=⟨by decide,by decide⟩
theorem fb_x (l:qe) (h:l.length≤9):qgs [(qeu,l)]:=⟨by simp,fun f hf=>by
 simp at hf
 subst hf
 exact⟨by simp [qeu],by simp only;omega⟩⟩
theorem zbr (st:List AObj):qp E 41 [wu qec,kc [(qeu,[49,48])]] st fun x st'=>x=Bv true∧st'=st:=by
 have:=qjs qec [(qeu,[49,48])] st rb_x (fb_x _ (by decide))
 rwa [decide_eq_true brx1] at this
theorem zbs (st:List AObj):qp E 41 [wu qec,kc [(qeu,[48,55])]] st fun x st'=>x=Bv true∧st'=st:=by
 have:=qjs qec [(qeu,[48,55])] st rb_x (fb_x _ (by decide))
 rwa [decide_eq_true brx2] at this
theorem zbt (st:List AObj):qp E 41 [wu qec,kc [(qeu,[55])]] st fun x st'=>x=Bv false∧st'=st:=by
 have:=qjs qec [(qeu,[55])] st rb_x (fb_x _ (by decide))
 rwa [decide_eq_false brx3] at this
theorem q9y (st:List AObj):qp E 50 [wu qec] st fun x st'=>x=Bv true∧st'=st:=by
 have:=qmn qec st (by decide)
 rwa [decide_eq_true zb7] at this
theorem q24 (st:List AObj):qp E 33 [] st fun x st'=>x=Bv true∧st'=st:=by
 refine zi (qy _) (qt Tryz.func33 rfl (Nat.le_of_ble_eq_true rfl) ?_)
 repeat' (first|(apply w7;first|apply qr|apply ze|apply ql|(apply qc;exact rfl;apply wa;exact cAo)|(apply qc;exact rfl;apply wq;exact cAo)|(apply qc;exact rfl;apply yz;exact cRa)|(apply qc;exact rfl;apply qaa;exact cRa)|(apply qc;exact rfl;apply cd_n <;> intro h)|(apply qc;exact rfl;apply cd_t;exact cRa)|(apply qc;exact rfl;apply cd_f;exact cRa)|(apply qc;exact rfl;apply cd_d <;> intro h)|(apply qc;exact rfl;apply cd_s <;> intro h)|(apply w6;exact rfl;kernel_rfl)|apply q8|apply jq|apply zb)|(apply vh;first|(apply qv;(iterate 4 exact rfl))|(apply zt;(iterate 4 exact rfl)))|(apply xz;first|(apply v7;exact cAo)|(apply kg;exact cAo)|(apply j6;exact cAo)|(apply vz;exact cAo)|(apply vw;exact cRa)|(apply vv;exact cRa)|(apply vk;exact cRa)|(apply kq;exact cRa)|(apply kr <;> intro h)|(apply vr;exact cRa)|(apply wv;exact cRa)|(apply vq;exact cRa)|(apply ke;exact cRa)|(apply jo <;> intro h)|(apply wl <;> intro h))|(apply xy;first|apply yb|(apply xm;(iterate 4 exact rfl))|(apply yt;exact rfl;exact rfl;exact qn (by omega) (by omega))|(apply xo;(iterate 4 exact rfl);exact cAs;exact cAs)|(apply ka;(iterate 5 exact rfl))|(apply vp;exact rfl;exact rfl;exact cOs)|(apply kp;(iterate 3 exact rfl))|(apply j9;(iterate 5 exact rfl))|(apply jb;(iterate 4 exact rfl))|(apply ja;(iterate 3 exact rfl))|(apply yw;(iterate 3 exact rfl);exact cAs)|(apply xx;exact rfl;exact rfl)|(apply wy;exact rfl;exact rfl)|(apply wz;(iterate 3 exact rfl);omega)|(apply we;(iterate 3 exact rfl))|apply w9|apply vu|(apply yj;exact rfl;exact rfl;exact qn (by omega) (by omega))|(apply xw;(iterate 3 exact rfl))|(apply xp;(iterate 3 exact rfl);exact cAs)|(apply xl;(iterate 3 exact rfl);exact cAs)|(apply vf;exact rfl;exact rfl))|(apply vg;first|(apply qw;(iterate 3 exact rfl))|(apply jm;(iterate 3 exact rfl))|(apply jf;exact rfl;exact rfl;exact cOs)|(apply zp;exact rfl;exact rfl;exact qn (by omega) (by omega))|(apply kz;exact rfl;exact rfl;exact qn (by omega) (by omega))|(apply jc;exact rfl;exact rfl)|(apply jd;exact rfl;exact rfl)|(apply z7;exact rfl;exact rfl)|(apply jh;exact rfl;exact rfl)|(apply z4;(iterate 3 exact rfl))|(apply ji;(iterate 3 exact rfl))|(apply ve;exact rfl;exact rfl;(first|exact qi _|exact rfl);first|exact qi _|exact rfl)|(apply vb;exact rfl;exact rfl;(first|exact qi _|exact rfl);first|exact qi _|exact rfl)|(apply wd;exact rfl;exact rfl;(first|exact qi _|exact rfl);first|exact qi _|exact rfl)|(apply vc;(iterate 3 exact rfl))|(apply vd;(iterate 3 exact rfl)))|(apply wh;first|(apply zk;(iterate 3 exact rfl))|(apply jr;(iterate 5 exact rfl))|(apply zn;(iterate 5 exact rfl)))|(apply wi;first|(apply ko;exact rfl)|(apply jv;exact rfl)|(apply jx;exact rfl))|(apply vi;first|(apply vo;(iterate 3 exact rfl);exact cAs)|(apply vn;(iterate 3 exact rfl);exact cAs)|(apply va;(iterate 4 exact rfl);exact cAs;exact cAs)|(apply je;(iterate 4 exact rfl);(first|assumption|omega|exact Nat.succ_le_succ (Nat.zero_le _)|(simp;omega));exact rfl))|(apply wg;first|(apply zx;(iterate 3 exact rfl))|(apply zu;(iterate 4 exact rfl)))|(apply jl;first|(apply q5;(iterate 3 exact rfl))|(apply zg;(iterate 4 exact rfl)))|(apply vj;first|(apply jk;(iterate 11 exact rfl))|(apply zm;(iterate 11 exact rfl)))|(apply w8;first|apply qk|apply qo|apply qm|(apply zj;exact rfl;exact rfl)|(apply qf;exact rfl;apply xq;exact cAo)|(apply qf;exact rfl;apply x3;exact cAo)|(apply qf;exact rfl;apply qal;exact cRa)|(apply qf;exact rfl;apply qad;exact cRa)|(apply qf;exact rfl;apply pk_t;exact cRa)|(apply qf;exact rfl;apply pk_f;exact cRa)|(apply q9;exact rfl;exact rfl)|apply jg|(apply jj;exact rfl;exact rfl)|(apply vl;(iterate 4 exact rfl))|(apply kj;(iterate 3 exact rfl))|(apply j7;(iterate 3 exact rfl);exact cAs)|(apply ju;(iterate 3 exact rfl))|(apply zr;(iterate 9 exact rfl))|(apply zo;exact rfl;exact rfl)|(apply kf;(iterate 4 exact rfl);(first|assumption|omega|decide);exact rfl)|(apply z8;(iterate 4 exact rfl);first|assumption|omega|decide))|(apply qx;exact Tryz.call41;exact zbr _)|(apply qx;exact Tryz.call41;exact zbs _)|(apply qx;exact Tryz.call41;exact zbt _)|(apply qx;exact Tryz.call50;exact q9y _))
 exact qq rfl (zf rfl) ⟨rfl,_,rfl⟩
theorem q18 (r:zz):qmj (wu r):=by
 intro y hy
 simp [AV.cells] at hy
 rcases hy with rfl|rfl|rfl|rfl|rfl <;> exact qy _
end Go.Proofs.YtneejjefekdgjaaGreatDoor
namespace Go.Av
open Go Go.RowKit Go.WideShapes Go.ChangeShapes Go.Deep
def gW (W:World):Gh:=⟨fun b=>match W.heap[b]? with|some (.cells c _ _)=>some c.toList | _=>none,fun _=>⟨0,0,0,false⟩,0⟩
theorem zb6 {W:World} {b:Nat} {c:Array Value} {T:TypeId} {fz:Nat×Nat} (h:W.heap[b]? = some (.cells c T fz)):(gW W).pub b=some c.toList:=by
 simp [gW,h]
theorem quy (W:World):zl W.heap.size W (gW W) [] W:=by
 refine⟨Below.refl _ _,Nat.le_refl _,rfl,fun b vs h=>?_,fun o x h=>by simp at h,fun o o' x x' _ h=>by simp at h⟩
 simp only [gW] at h
 split at h
 ·rename_i c T fz hb
  cases h
  exact⟨c,T,fz,hb,fun i y hy=>by simpa using hy⟩
 ·cases h
theorem qpl {E:Env} {f:FuncId} {args:List AV} {vals:Array Value} {b:Bool} {W:World} (h:qp E f args [] fun r st'=>r=Bv b∧st'=[]) (hL:E.L W.heap.size W) (ha:RelL (gW W) args vals) :
  Calls E.P f vals W fun e w'=>e = .returned (.bool b)∧Below W.heap.size W w':=by
 refine (h.run W.heap.size W (gW W) vals W hL (quy W) ha).mono ?_
 rintro e w' ⟨v,G',r,st',rfl,_,hA,hr,rfl,_⟩
 cases hr
 exact⟨rfl,hA.below⟩
theorem q75 {G:Gh}:RelL G [] #[]:=⟨rfl,fun i x y h=>by simp at h⟩
theorem ql9 {G:Gh} {a:AV} {us:List AV} {v:Value} {vs:List Value} (h:Rel G a v) (hs:RelL G us vs.toArray):RelL G (a::us) (v::vs).toArray:=by
 refine⟨by simpa using hs.1,fun i x y hx hy=>?_⟩
 cases i with
 |zero=>simp at hx hy;subst hx;subst hy;exact h
 |succ i=>exact hs.2 i x y (by simpa using hx) (by simpa using hy)
def RelK (G:Gh) (us:List AV) (cs:List Value):Prop:=us.length=cs.length∧∀ (i:Nat) (x:AV) (y:Value),us[i]? = some x→cs[i]? = some y→Rel G x y
theorem qkl {G:Gh} {a:AV} {v:Value} (h:Rel G a v):RelK G [a] [v]:=⟨rfl,fun i x y hx hy=>by
 cases i with
 |zero=>simp at hx hy;subst hx;subst hy;exact h
 |succ i=>simp at hx⟩
theorem RelK.one {G:Gh} {a:AV} {v:Value} (h:RelK G [a] [v]):Rel G a v:=h.2 0 a v rfl rfl
def Opn (P:Program) (t:TypeId) (S:AV→Prop):Prop:=∀ (H:Type) (enc:TypeId×Value→H) (W:World) (fuel:Nat) (cs:List Value) (x:DataW H×List MemPlace),
 DataW.trod enc P W 0 (fun _=>true) true fuel t cs=some x→∃ a,S a∧RelK (gW W) a.cells cs
def IsS (a:AV):Prop:=∃ l:List UInt8,a=Sv l∧l.length≤maxLen
def IsI (k:IntKind) (a:AV):Prop:=∃ n:Int,a = .v (.int k n)∧(Lit.int k n).wf=true
def IsSl (sz:Nat) (S:AV→Prop) (a:AV):Prop:=∃ xs:List AV,a = .sl sz xs none∧xs.length≤maxLen∧∀ x∈xs,S x
def IsAg (Ss:List (AV→Prop)) (a:AV):Prop:=∃ vs:List AV,a = .ag vs∧vs.length=Ss.length∧∀ (i:Nat) (S:AV→Prop) (v:AV),Ss[i]? = some S→vs[i]? = some v→S v
def One (S:AV→Prop):Prop:=∀ a,S a→a.cells=[a]
theorem qun:One IsS:=by rintro _ ⟨l,rfl,_⟩;rfl
theorem qqk (k:IntKind):One (IsI k):=by rintro _ ⟨l,rfl,_⟩;rfl
theorem q82 (s:ByteArray):Sv s.data.toList = .v (.string s):=by cases s;simp
theorem qup {P:Program} {t:TypeId} (hu:P.underlying t=some .string):Opn P t IsS:=by
 intro H enc W fuel cs x h
 obtain⟨s,rfl,_,hs⟩:=DataW.trod_string hu h
 refine⟨Sv s.data.toList,⟨_,rfl,by simpa using hs⟩,qkl ?_⟩
 rw [q82]
 exact .v _
theorem qqm {P:Program} {t:TypeId} {k:IntKind} (hu:P.underlying t=some (.int k)):Opn P t (IsI k):=by
 intro H enc W fuel cs x h
 obtain⟨n,rfl,_,hs⟩:=DataW.trod_int hu h
 exact⟨_,⟨n,rfl,hs⟩,qkl (.v _)⟩
theorem qnb {n:Nat} {Q:Nat→AV→Prop} (h:∀ i,i<n→∃ a,Q i a):∃ vs:List AV,vs.length=n∧∀ i v,vs[i]? = some v→Q i v:=by
 induction n with
 |zero=>exact⟨[],rfl,fun i v h=>by simp at h⟩
 |succ n ih=>
  obtain⟨vs,hl,hv⟩:=ih fun i hi=>h i (by omega)
  obtain⟨a,ha⟩:=h n (by omega)
  refine⟨vs++[a],by simp [hl],fun i v hi=>?_⟩
  rcases Nat.lt_or_ge i n with hc|hc
  ·rw [List.getElem?_append_left (by omega)] at hi
   exact hv i v hi
  ·rw [List.getElem?_append_right (by omega)] at hi
   have:i - vs.length=0:=by
    rcases Nat.eq_zero_or_pos (i - vs.length) with h0|h0
    ·exact h0
    ·rw [List.getElem?_eq_none (by simp;omega)] at hi;cases hi
   rw [this] at hi
   simp at hi
   subst hi
   have:i=n:=by omega
   subst this
   exact ha
theorem zcr {P:Program} {t:TypeId} {fs:Array Field} {Ss:List (AV→Prop)} (hu:P.underlying t=some (.struct fs)) (hone:oneCellFields P fs=true) (hC:P.cellsOf t=fs.size) (hl:Ss.length=fs.size)
  (hS:∀ (i:Nat) (f:Field) (S:AV→Prop),fs[i]? = some f→Ss[i]? = some S→Opn P f.type S∧One S):Opn P t (IsAg Ss):=by
 intro H enc W fuel cs x h
 obtain⟨xs,n,_,_,hcl,hxl,hf⟩:=DataW.trod_struct hu h
 have hcs:cs.length=fs.size:=hcl.trans hC
 have step:∀ i,i<fs.size→∃ a:AV,(∀ S,Ss[i]? = some S→S a)∧∀ y,cs[i]? = some y→Rel (gW W) a y:=by
  intro i hi
  have hfi:fs[i]? = some fs[i]:=Array.getElem?_eq_getElem hi
  have hSi:Ss[i]? = some (Ss[i]'(by omega)):=List.getElem?_eq_getElem (by omega)
  obtain⟨hO,h1⟩:=hS i _ _ hfi hSi
  obtain⟨ho,hk⟩:=hone_of hone i _ hfi
  have ht:=hf i _ hfi
  rw [ho,hk] at ht
  have hd:(cs.drop i).take 1=[cs[i]'(by omega)]:=by
   rw [List.drop_eq_getElem_cons (by omega)]
   rfl
  rw [hd,List.getElem?_eq_getElem (by omega)] at ht
  obtain⟨a,ha,hr⟩:=hO H enc W n _ _ ht
  rw [h1 a ha] at hr
  refine⟨a,fun S hs=>?_,fun y hy=>?_⟩
  ·rw [hSi] at hs;cases hs;exact ha
  ·rw [List.getElem?_eq_getElem (by omega)] at hy;cases hy;exact hr.one
 obtain⟨vs,hvl,hv⟩:=qnb step
 refine⟨.ag vs,⟨vs,rfl,by omega,fun i S v hs hvi=>(hv i v hvi).1 S hs⟩,by show vs.length=cs.length;omega,fun i x y hx hy=>(hv i x hx).2 y hy⟩
theorem qzt {W:World} {a:Addr} {n:Nat} {v:Value} (h:W.cell? (a.add n)=some v):∃ (c:Array Value) (T:TypeId) (fz:Nat×Nat),W.heap[a.block]? = some (.cells c T fz)∧c[a.off+n]? = some v∧(n=0→a.spot=none):=by
 unfold World.cell? Addr.add at h
 by_cases hn:n=0
 ·subst hn
  simp only [if_true] at h
  split at h
  ·rename_i c T fz hb
   split at h
   ·cases h
   ·rename_i hs
    exact⟨c,T,fz,hb,by simpa using h,fun _=>by simpa using hs⟩
  ·cases h
 ·rw [if_neg hn] at h
  simp only at h
  split at h
  ·rename_i c T fz hb
   exact⟨c,T,fz,hb,by simpa using h,fun e=>absurd e hn⟩
  ·cases h
theorem qw7 {P:Program} {t e:TypeId} {sz:Nat} {S:AV→Prop} (hu:P.underlying t=some (.slice e)) (hC:P.cellsOf e=sz) (hz:0<sz) (hS:Opn P e S):Opn P t (IsSl sz S):=by
 intro H enc W fuel cs x h
 rcases open_slice hu h with⟨rfl,_⟩ | ⟨a,len,cap,m,n,D,Pl,rfl,_,hlc,hcm,hm,_,hel⟩
 ·exact⟨.sl sz [] none,⟨[],rfl,by simp,by simp⟩,qkl (.sl0 sz none _ _ (by simp))⟩
 ·have hm':len≤m:=by rw [hm];simpa using hlc
  rw [hC] at hel
  have step:∀ i,i<len→∃ y:AV,S y∧y.cells.length=sz∧∀ j,j<sz→∃ (u:AV) (v:Value),y.cells[j]? = some u∧W.cell? (a.add (i * sz+j))=some v∧Rel (gW W) u v:=by
   intro i hi
   obtain⟨cs',hc,ht⟩:=hel i (by omega)
   obtain⟨_,hcl,hat⟩:=World.cells?_some hc
   obtain⟨y,hy,hr⟩:=hS H enc W n cs' _ ht
   refine⟨y,hy,hr.1.trans hcl,fun j hj=>?_⟩
   have h1:y.cells[j]? = some (y.cells[j]'(by rw [hr.1,hcl];exact hj)):=List.getElem?_eq_getElem _
   have h2:cs'[j]? = some (cs'[j]'(by omega)):=List.getElem?_eq_getElem _
   refine⟨_,_,h1,?_,hr.2 j _ _ h1 h2⟩
   rw [← Go.Deep.add_add,hat j hj,h2]
  obtain⟨xs,hxl,hx⟩:=qnb step
  have hmem:∀ y∈xs,S y∧y.cells.length=sz:=fun y hy=>by
   obtain⟨i,hi,rfl⟩:=List.mem_iff_getElem.1 hy
   have:=hx i xs[i] (List.getElem?_eq_getElem hi)
   exact⟨this.1,this.2.1⟩
  refine⟨.sl sz xs none,⟨xs,rfl,by omega,fun y hy=>(hmem y hy).1⟩,qkl ?_⟩
  rcases Nat.eq_zero_or_pos len with h0|h0
  ·subst h0
   have:xs=[]:=List.length_eq_zero_iff.1 hxl
   subst this
   exact .sl0 sz none _ _ (by simp)
  ·have hfl:(flat xs).length=len * sz:=by rw [jn fun y hy=>(hmem y hy).2,hxl]
   have at0:∀ k,k<len * sz→∃ (u:AV) (v:Value),(flat xs)[k]? = some u∧W.cell? (a.add k)=some v∧Rel (gW W) u v:=by
    intro k hk
    have hq:k / sz<len:=(Nat.div_lt_iff_lt_mul hz).2 hk
    have hr:k % sz<sz:=Nat.mod_lt _ hz
    have e:k / sz * sz+k % sz=k:=by rw [Nat.mul_comm];exact Nat.div_add_mod k sz
    have hxi:xs[k / sz]? = some (xs[k / sz]'(by omega)):=List.getElem?_eq_getElem _
    obtain⟨_,_,hj⟩:=hx _ _ hxi
    obtain⟨u,v,h1,h2,h3⟩:=hj _ hr
    have:=qhq (sz:=sz) (fun y hy=>(hmem y hy).2) hxi _ hr
    rw [e] at this h2
    exact⟨u,v,this.trans h1,h2,h3⟩
   have hpos:0<len * sz:=Nat.mul_pos h0 hz
   obtain⟨_,_,_,hc0,_⟩:=at0 0 hpos
   obtain⟨c,T,fz,hb,_,hspot⟩:=qzt hc0
   have hin:∀ k,k<len * sz→∃ (u:AV) (v:Value),(flat xs)[k]? = some u∧c.toList[a.off+k]? = some v∧Rel (gW W) u v:=by
    intro k hk
    obtain⟨u,v,h1,h2,h3⟩:=at0 k hk
    obtain⟨c',T',fz',hb',hv,_⟩:=qzt h2
    rw [hb] at hb'
    cases hb'
    exact⟨u,v,h1,by simpa using hv,h3⟩
   obtain⟨b,off,spot⟩:=a
   have hs:=hspot rfl
   simp only at hs hb hin
   subst hs
   rw [← hxl]
   refine .sl sz xs none b off cap c.toList (zb6 hb) (fun y hy=>(hmem y hy).2) ?_ ?_ ?_ (by omega)
   ·obtain⟨_,_,_,hv,_⟩:=hin (len * sz - 1) (by omega)
    have:=(List.getElem?_eq_some_iff.1 hv).1
    omega
   ·intro i x y hx' hy'
    have hi:i<len * sz:=by rw [← hfl];exact (List.getElem?_eq_some_iff.1 hx').1
    obtain⟨u,v,h1,h2,h3⟩:=hin i hi
    rw [hx'] at h1
    rw [hy'] at h2
    cases h1
    cases h2
    exact h3
   ·intro t ht
    simp at ht
def fieldsOf (P:Program) (t:TypeId):Array Field:=match P.underlying t with|some (.struct fs)=>fs | _=> #[]
theorem qkc {P:Program} {t:TypeId} {As:List (Option TypeDesc×(AV→Prop))} (hu:P.underlying t=some (.struct (fieldsOf P t))) (hone:oneCellFields P (fieldsOf P t)=true) (hC:P.cellsOf t=(fieldsOf P t).size)
  (hF:(fieldsOf P t).toList.map (fun f=>P.underlying f.type)=As.map Prod.fst) (hA:∀ p∈As,(∀ u,P.underlying u=p.1→Opn P u p.2)∧One p.2):Opn P t (IsAg (As.map Prod.snd)):=by
 have hl:As.length=(fieldsOf P t).size:=by have:=congrArg List.length hF;simpa using this.symm
 refine zcr hu hone hC (by simpa using hl) fun i f S hf hS=>?_
 obtain⟨p,hp,rfl⟩:∃ p,As[i]? = some p∧p.2=S:=by simpa using hS
 have h1:((fieldsOf P t).toList.map (fun f=>P.underlying f.type))[i]? = some (P.underlying f.type):=by simp [hf]
 rw [hF,List.getElem?_map,hp] at h1
 obtain⟨a,b⟩:=hA p (List.mem_of_getElem? hp)
 exact⟨a _ (by simpa using h1.symm),b⟩
theorem qrb {α : Type} {g : α→AV}:∀ {xs:List AV},(∀ x∈xs,∃ r,x=g r)→∃ rs:List α,xs=rs.map g
 | [],_=>⟨[],rfl⟩
 |x::xs,h=>by
  obtain⟨r,rfl⟩:=h x (by simp)
  obtain⟨rs,rfl⟩:=qrb (xs:=xs) fun y hy=>h y (by simp [hy])
  exact⟨r::rs,rfl⟩
theorem q3d {H:Type} {enc:TypeId×Value→H} {P:Program} {W:World} {r:Reach} {b0:Nat} {t e:TypeId} {S:AV→Prop} {v:Value} {d:DataW H} {ps:List MemPlace} (hu:P.underlying t=some (.slice e)) (hO:Opn P t S) (h1:One S) (hval:Value.okWide P W r b0 t v) (hd:DataW.Trod enc P W 0 (fun _=>true) true t v d ps) :
  ∃ a,S a∧Rel (gW W) a v:=by
 obtain⟨a,len,cap,rfl⟩:=okWide_slice hu hval
 obtain⟨fuel,hf⟩:=hd
 obtain⟨y,hy,hr⟩:=hO H enc W fuel _ _ hf
 rw [h1 y hy] at hr
 exact⟨y,hy,RelK.one (by simpa [Value.cells] using hr)⟩
theorem zdg {G:Gh} (s:ByteArray):Rel G (Sv s.data.toList) (.string s):=by rw [q82];exact .v _
theorem qvk {H:Type} {enc:TypeId×Value→H} {P:Program} {W W':World} {t:TypeId} (hl:laidOutB P=true) (hr:P.readableRec t=true) (hrow:t<P.types.size) {sp:Nat→Bool} {v:Value} {d:DataW H} {ps:List MemPlace}
  (hd:DataW.Trod enc P W 0 (fun _=>true) true t v d ps) (hb:Below W.heap.size W W') (hlt:∀ p∈ps,p.block<W.heap.size) (hs:∀ p∈ps,sp p.block=true):DataW.Trod enc P W' 0 sp true t v d ps:=
 Go.WideElems.Trod_stays hl hr hrow hd (fun p hp=>hb.same (hlt p hp)) hs
end Go.Av
namespace Go.Proofs.YtneejjefekdgjaaGreatDoor
open Go Go.Av Go.RowKit Go.Proofs Go.Pl
theorem zas:Opn Tryz.prog 111 fun a=>∃ f:FldV,a=fldA f:=by
 intro H enc W fuel cs x h
 obtain⟨a,⟨vs,rfl,hl,hv⟩,hr⟩:=qkc (As:=[(some .string,IsS),(some .string,IsS)]) (by kernel_rfl) (by kernel_rfl) (by kernel_rfl) (by kernel_rfl)
  (List.forall_mem_cons.2 ⟨⟨fun _ h=>qup h,qun⟩,List.forall_mem_cons.2 ⟨⟨fun _ h=>qup h,qun⟩,nofun⟩⟩) H enc W fuel cs x h
 match vs,hl with
 | [v0,v1],_=>
  obtain⟨l0,rfl,_⟩:=hv 0 _ _ rfl rfl
  obtain⟨l1,rfl,_⟩:=hv 1 _ _ rfl rfl
  exact⟨_,⟨(l0,l1),rfl⟩,hr⟩
theorem q7q {t:TypeId} (hu:Tryz.prog.underlying t=some (.slice 111)):Opn Tryz.prog t fun a=>∃ xs:List FldV,a=kc xs∧xs.length≤maxLen:=by
 intro H enc W fuel cs x h
 obtain⟨a,⟨xs,rfl,hl,hx⟩,hr⟩:=qw7 (sz:=2) hu (by kernel_rfl) (by decide) zas H enc W fuel cs x h
 obtain⟨rs,rfl⟩:=qrb hx
 exact⟨_,⟨rs,rfl,by simpa using hl⟩,hr⟩
theorem q7r:Opn Tryz.prog 167 fun a=>∃ r:zz,a=wu r:=by
 intro H enc W fuel cs x h
 obtain⟨a,⟨vs,rfl,hl,hv⟩,hr⟩:=qkc (As:=[(some (.int .i64),IsI .i64),(some .string,IsS),(some .string,IsS),(some (.int .i64),IsI .i64),(some (.int .i64),IsI .i64)]) (by kernel_rfl) (by kernel_rfl) (by kernel_rfl) (by kernel_rfl)
  (List.forall_mem_cons.2 ⟨⟨fun _ h=>qqm h,qqk _⟩,List.forall_mem_cons.2 ⟨⟨fun _ h=>qup h,qun⟩,List.forall_mem_cons.2 ⟨⟨fun _ h=>qup h,qun⟩,List.forall_mem_cons.2 ⟨⟨fun _ h=>qqm h,qqk _⟩,List.forall_mem_cons.2 ⟨⟨fun _ h=>qqm h,qqk _⟩,nofun⟩⟩⟩⟩⟩) H enc W fuel cs x h
 match vs,hl with
 | [v0,v1,v2,v3,v4],_=>
  obtain⟨n0,rfl,_⟩:=hv 0 _ _ rfl rfl
  obtain⟨l1,rfl,_⟩:=hv 1 _ _ rfl rfl
  obtain⟨l2,rfl,_⟩:=hv 2 _ _ rfl rfl
  obtain⟨n3,rfl,_⟩:=hv 3 _ _ rfl rfl
  obtain⟨n4,rfl,_⟩:=hv 4 _ _ rfl rfl
  exact⟨_,⟨⟨n0,l1,l2,n3,n4⟩,rfl⟩,hr⟩
theorem q43 {t:TypeId} (hu:Tryz.prog.underlying t=some (.slice 167)):Opn Tryz.prog t fun a=>∃ xs:List zz,a = .sl 5 (xs.map wu) none∧xs.length≤maxLen:=by
 intro H enc W fuel cs x h
 obtain⟨a,⟨xs,rfl,hl,hx⟩,hr⟩:=qw7 (sz:=5) hu (by kernel_rfl) (by decide) q7r H enc W fuel cs x h
 obtain⟨rs,rfl⟩:=qrb hx
 exact⟨_,⟨rs,rfl,by simpa using hl⟩,hr⟩
theorem q7o:One fun a=>∃ xs:List FldV,a=kc xs∧xs.length≤maxLen:=by rintro _ ⟨xs,rfl,_⟩;rfl
theorem q4z:One fun a=>∃ xs:List zz,a = .sl 5 (xs.map wu) none∧xs.length≤maxLen:=by rintro _ ⟨xs,rfl,_⟩;rfl
theorem q4o {n:Nat} (h:n≤maxLen):n<9223372036854775808:=by unfold maxLen at h;omega
structure zh where
 kind:Int
 id:Int
 fields:List FldV
@[reducible] def qaw (e : zh) : AV := .ag [Iv e.kind, Iv e.id, kc e.fields]
def qwg (k:Int):qe:=if k=1 then [32,114,101,112,108,97,99,101,32] else if k=2 then [32,100,101,108,101,116,101,32] else if k=3 then [32,105,110,115,101,114,116,32] else []
def qip (e:zh):qe:=if 1≤e.kind∧e.kind≤3 then qwg e.kind++Lib.itoa e.id else []
end Go.Proofs.YtneejjefekdgjaaGreatDoor
namespace Go.Av
open Go Go.RowKit
def noop (o:Oper):Oper:={ o with op:=.move (.const undef),guard:=none }
section
variable {F : Fence} {n : Nat} {P : Program} {ops ops' : Array Oper} {md : Region.Mode} {C : World → Prop} {Q : Exit → Act → World → Prop} {k : Nat} {o : Oper}
theorem qji {listed:Array Bool}:∀ k,listed.getD k true=false→∃ j,j≤k∧listed.getD j true=false∧∀ i,i<j→listed.getD i true=true:=by
 intro k
 induction k using Nat.strongRecOn with
 | _ k ih=>
  intro h
  by_cases hall:∀ i,i<k→listed.getD i true=true
  ·exact⟨k,Nat.le_refl _,h,hall⟩
  ·have ⟨i,hi⟩:=Classical.not_forall.1 hall
   have ⟨hi1,hi2⟩:=Classical.not_imp.1 hi
   obtain⟨j,h1,h2,h3⟩:=ih i hi1 (by simpa using hi2)
   exact⟨j,by omega,h2,h3⟩
theorem qt6 {listed:Array Bool} {i:Nat} (h:listed.getD i true=true) (hi:i<listed.size):listed.getD i false=true:=by
 simp [Array.getD,hi] at h ⊢
 exact h
theorem qyx {listed:Array Bool} {i:Nat} (h:listed.getD i true=false) (h2:listed.getD i false=true):False:=by
 unfold Array.getD at h h2
 by_cases hi:i<listed.size
 ·rw [dif_pos hi] at h h2
  rw [h] at h2
  cases h2
 ·rw [dif_neg hi] at h
  cases h
theorem qnn {listed:Array Bool} {j:Nat} (hsz:listed.size=ops.size) (hord:∀ (j:Nat) o,ops[j]? = some o→∀ e∈o.after,e.on<j) (hj:listed.getD j true=false) (hall:∀ i,i<j→listed.getD i true=true):j∈Region.ready md ops listed:=by
 have hlt:j<listed.size:=by
  rcases Nat.lt_or_ge j listed.size with h|h
  ·exact h
  ·simp [Array.getD,Nat.not_lt.2 h] at hj
 rw [mem_ready]
 have ho:ops[j]? = some ops[j]:=Array.getElem?_eq_getElem (by omega)
 exact⟨hj,_,ho,fun e he _=>qt6 (hall _ (hord j _ ho e he)) (by have:=hord j _ ho e he;omega)⟩
theorem qkh {listed:Array Bool} (hs:ops.size=ops'.size) (hk:ops[k]? = some o) (hk':ops'[k]? = some (noop o)) (hoth:∀ j,j≠k→ops'[j]? = ops[j]?):Region.ready md ops' listed=Region.ready md ops listed:=by
 unfold Region.ready
 rw [hs]
 refine List.filter_congr fun i _=>?_
 by_cases h:i=k
 ·subst h;rw [hk,hk'];rfl
 ·rw [hoth i h]
theorem qyf (hd:o.dst=none) (hk:ops[k]? = some o) (hk':ops'[k]? = some (noop o)) (hoth:∀ j,j≠k→ops'[j]? = ops[j]?) (t:Array Value):yielded ops' t=yielded ops t:=by
 funext j
 unfold yielded
 by_cases h:j=k
 ·subst h;rw [hk,hk'];simp [noop,hd]
 ·rw [hoth j h]
theorem qme (hro:F.round=none) (hsz:ops.size=ops'.size) (hk:ops[k]? = some o) (hk':ops'[k]? = some (noop o)) (hoth:∀ j,j≠k→ops'[j]? = ops[j]?) (hd:o.dst=none)
  (hord:∀ (j:Nat) o,ops[j]? = some o→∀ e∈o.after,e.on<j) (hcov:∀ j,j<ops.size→j≠k→∃ e∈o.after,Region.binds md e=true∧e.on=j) :
  ∀ (fuel:Nat) (listed:Array Bool) (a:Act) (w:World),C w→listed.size=ops.size→listed.getD k true=false→wpAnyQIn F n P md ops' C (fun a=>∀ w,C w→wpOpIn F n P ops Q k (Q .normal) a w) fuel listed a→wpAnyIn F n P md ops Q fuel listed a w
 | 0,listed,a,w,hC,hs,hun,h=>by
  have ⟨j,_,h2,h3⟩:=qji k hun
  have:=qnn (md:=md) hs hord h2 h3
  rw [← qkh hsz hk hk' hoth,h.1] at this
  cases this
 |fuel+1,listed,a,w,hC,hs,hun,h=>by
  obtain⟨hq1,hq2⟩:=h
  rw [qkh hsz hk hk' hoth] at hq1 hq2
  refine⟨fun h0=>?_,fun i hi=>?_⟩
  ·have ⟨j,_,h2,h3⟩:=qji k hun
   have:=qnn (md:=md) hs hord h2 h3
   rw [h0] at this
   cases this
  ·have hqi:=hq2 i hi
   by_cases hik:i=k
   ·subst hik
    obtain⟨_,o',ho',hall⟩:=mem_ready.1 hi
    rw [hk] at ho'
    cases ho'
    have hr:Region.ready md ops (listed.setIfInBounds i true)=[]:=by
     rw [List.eq_nil_iff_forall_not_mem]
     intro j hj
     obtain⟨hju,oj,hoj,_⟩:=mem_ready.1 hj
     have hjs:j<ops.size:=by
      rcases Nat.lt_or_ge j ops.size with h|h
      ·exact h
      ·rw [Array.getElem?_eq_none h] at hoj;cases hoj
     by_cases hji:j=i
     ·subst hji
      simp [Array.getD,hs,hjs] at hju
     ·obtain⟨e,he,hb,heq⟩:=hcov j hjs hji
      have h5:=hall e he hb
      rw [heq] at h5
      rw [getD_set_ne true (Ne.symm hji)] at hju
      exact qyx hju h5
    unfold qOpIn at hqi
    rw [hk'] at hqi
    simp only at hqi
    have hqe:=hqi.2
    have hwn:Region.wanted (noop o) (yielded ops' a.tmps)=true:=by simp [noop,Region.wanted]
    rw [if_pos hwn] at hqe
    obtain⟨v,_,hK⟩:=hqe
    have hput:a.put (noop o).dst v=a:=by simp [noop,hd,Act.put]
    rw [hput] at hK
    have hQ':∀ w,C w→wpOpIn F n P ops Q i (Q .normal) a w:=by
     cases fuel with
     |zero=>exact hK.2
     |succ fuel=>exact hK.1 (by rw [qkh hsz hk hk' hoth];exact hr)
    exact wpOpIn_mono (fun a' w' h'=>wpAnyIn_done hr h' _) (hQ' w hC)
   ·have he:qOpIn F n P ops C i (wpAnyQIn F n P md ops' C (fun a=>∀ w,C w→wpOpIn F n P ops Q k (Q .normal) a w) fuel (listed.setIfInBounds i true)) a:=by
     unfold qOpIn at hqi ⊢
     rw [hoth i hik] at hqi
     rw [← qyf hd hk hk' hoth]
     exact hqi
    refine wpOpIn_of_qOpIn hro hC (fun a' w' hC' hX=>qme hro hsz hk hk' hoth hd hord hcov fuel _ a' w' hC' (by simpa using hs) ?_ hX) he
    rw [getD_set_ne true hik]
    exact hun
def qfd {α : Type}:List α→Option (List α×α)
 | []=>none
 | [x]=>some ([],x)
 |x::y::r=>match qfd (y::r) with
  |some (l,o)=>some (x::l,o)
  |none=>none
theorem qmb {α : Type}:∀ {L l:List α} {o : α},qfd L=some (l,o)→L=l++[o]
 | [],_,_,h=>by simp [qfd] at h
 | [x],_,_,h=>by simp [qfd] at h;obtain⟨rfl,rfl⟩:=h;rfl
 |x::y::r,l,o,h=>by
  unfold qfd at h
  split at h
  ·rename_i l' o' he
   simp only [Option.some.injEq,Prod.mk.injEq] at h
   obtain⟨rfl,rfl⟩:=h
   rw [qmb he]
   rfl
  ·simp at h
def qzv (o:Oper) (k:Nat):Bool:=(List.range k).all fun j=>o.after.toList.any fun e=>Region.binds .any e && Nat.beq e.on j
def qw8 (ops:List Oper):Bool:=(List.range ops.length).all fun j=>match ops[j]? with|some o=>o.after.toList.all fun e=>Nat.blt e.on j|none=>true
end
section
variable {E : Env} {N : Nat} {s : AS}
theorem qsk {id:Nat} {L l:List Oper} {o:Oper} {Q:Exit→AS→Prop} (hsp:qfd L=some (l,o)) (hd:o.dst=none) (hcov:qzv o l.length=true) (hord:qw8 L=true) (hm:E.P.follows .mixedOrders=true) (hB:Region.lexB .any (l++[noop o]).toArray=true)
  (h:AQ E N (l++[noop o]).toArray l (fun s'=>AOps E none N L.toArray [o] (Q .normal) s') s):AWp E none N (.region id L.toArray true) Q s:=by
 have hLe:=qmb hsp
 subst hLe
 refine⟨fun B0 w0 G a w hL hI=>?_⟩
 have hB2:=hB
 simp only [Region.lexB,Bool.and_eq_true] at hB2
 have hk:(l++[o]).toArray[l.length]? = some o:=by simp
 have hk':(l++[noop o]).toArray[l.length]? = some (noop o):=by simp
 have hoth:∀ j,j≠l.length→(l++[noop o]).toArray[j]? = (l++[o]).toArray[j]?:=fun j hj=>by
  simp only [List.getElem?_toArray]
  rcases Nat.lt_or_ge j l.length with h|h
  ·rw [List.getElem?_append_left h,List.getElem?_append_left h]
  ·rw [List.getElem?_eq_none (by simp;omega),List.getElem?_eq_none (by simp;omega)]
 have hordP:∀ (j:Nat) o',(l++[o]).toArray[j]? = some o'→∀ e∈o'.after,e.on<j:=fun j o' hj e he=>by
  simp only [qw8,List.all_eq_true,List.mem_range] at hord
  simp only [List.getElem?_toArray] at hj
  have h1:=hord j (lt_of_getElem? hj)
  rw [hj] at h1
  simp only at h1
  have h2:=List.all_eq_true.1 h1 e (by simpa using he)
  exact Nat.le_of_ble_eq_true h2
 have hcovP:∀ j,j<(l++[o]).toArray.size→j≠l.length→∃ e∈o.after,Region.binds .any e=true∧e.on=j:=fun j hj hne=>by
  simp only [qzv,List.all_eq_true,List.mem_range] at hcov
  have h1:=hcov j (by simp at hj;omega)
  obtain⟨e,he,h2⟩:=List.any_eq_true.1 h1
  simp only [Bool.and_eq_true] at h2
  exact⟨e,by simpa using he,h2.1,Nat.eq_of_beq_eq_true h2.2⟩
 have hBl:Below w.heap.size w { w with drawn:=w.drawn+1 }:=⟨rfl,rfl,rfl,Nat.le_refl _,fun _ _=>rfl⟩
 refine wpIn_region_any hm (qme (C:=fun w'=>Below w.heap.size w w') (ops':=(l++[noop o]).toArray) (k:=l.length) rfl (by simp) hk hk' hoth hd hordP hcovP _ _ _ _ hBl (by simp) (by simp [Array.getD]) ?_)
 have hq:wpQuietIn (fw none) 0 E.P (l++[noop o]).toArray (fun w'=>Below w.heap.size w w') (fun a=>∀ w',Below w.heap.size w w'→wpOpIn (fw none) 0 E.P (l++[o]).toArray (fun e a' w'=>∃ (G':Gh) (s':AS),G.le G'∧Inv B0 w0 N G' s' a' w'∧Q e s') l.length (fun a' w'=>∃ (G':Gh) (s':AS),G.le G'∧Inv B0 w0 N G' s' a' w'∧Q .normal s') a w') (l++[noop o]) a:=by
  have step:∀ (l1:List Oper) (a:Act) (X:Act→Prop),wpQuietIn (fw none) 0 E.P (l++[noop o]).toArray (fun w'=>Below w.heap.size w w') X l1 a→wpQuietIn (fw none) 0 E.P (l++[noop o]).toArray (fun w'=>Below w.heap.size w w') X (l1++[noop o]) a:=by
   intro l1
   induction l1 with
   |nil=>
    intro a X hX
    refine⟨fun _ _ _ hf=>?_,?_⟩
    ·simp [Oper.about,noop] at hf
    ·have hwn:Region.wanted (noop o) (yielded (l++[noop o]).toArray a.tmps)=true:=by simp [noop,Region.wanted]
     rw [if_pos hwn]
     refine⟨undef,fun w' _=>?_,?_⟩
     ·unfold Oper.quietAtIn
      simp [noop,execOp,Oper.quietUponIn,Act.eval]
     ·have hput:a.put (noop o).dst undef=a:=by simp [noop,hd,Act.put]
      rw [hput]
      exact hX
   |cons o1 l1 ih=>
    intro a X hX
    refine⟨hX.1,?_⟩
    have h2:=hX.2
    split
    ·rename_i hw
     rw [if_pos hw] at h2
     obtain⟨v,h3,h4⟩:=h2
     exact⟨v,h3,ih _ _ h4⟩
    ·rename_i hw
     rw [if_neg hw] at h2
     exact ih _ _ h2
  refine step l a _ (h.run B0 w0 G a w hL hI _ fun s' a' hI' hst hks w' hw'=>?_)
  have hI2:Inv B0 w0 N G s' a' w':=⟨hI'.agree.fresh hw',hI'.defers,hI'.size,hI'.tmps⟩
  have hr:=hks.run B0 w0 G a' w' hL hI2 (fun e a' w'=>∃ (G':Gh) (s':AS),G.le G'∧Inv B0 w0 N G' s' a' w'∧Q e s') (fun G' s'' a'' w'' hG hI3 hQ=>⟨G',s'',hG,hI3,hQ⟩)
  unfold wpOpIn
  rw [hk]
  exact hr
 have:=wpAnyQIn_lex (F:=fw none) (n:=0) (C:=fun w'=>Below w.heap.size w w') (md:=.any) hB2.1 (l++[noop o]) 0 (Array.replicate (l++[noop o]).length false) a (by simp) (by simpa using hB2.2) hq
 simpa using this
variable {ops : Array Oper} {K : AS → Prop} {rest : List Oper} {d : Option Tmp} {T : TypeId} {p : String} {af : Array Edge}
theorem vp {x y:Operand} {t t':TypeId} {m n:List UInt8} (hx:qj N s x=Sv m) (hy:qj N s y=Sv n) (hl:m.length+n.length<9223372036854775808)
  (h:AQ E N ops rest K (s.put d (Sv (m++n)))):AQ E N ops (⟨d,.binOp .add t x y t',T,p,af,none⟩::rest) K s:=
 qb4 _ rfl nofun (fun a w he=>by
  simp only [execOp,he _ _ hx,he _ _ hy,eqGuard_at_string,binOp,Op.stringOp,qbs,qsj,IntKind.max_i64]
  rw [if_neg (by omega)]
  simp) h
theorem qvi {x y:Operand} {t e:TypeId} {sz:Nat} {agg:Bool} {xs:List AV} {tip:Option Nat} {k:IntKind} {i:Int} {n:Nat} {z:AV} (hx:qj N s x = .sl sz xs tip) (hy:qj N s y = .v (.int k i)) (hu:E.P.underlying t=some (.slice e)) (ht:tyOf E.P e=some (sz,agg)) (hi:i=n) (hz:xs[n]? = some z)
  (h:AQ E N ops rest K (s.put d (.pp z.cells))):AQ E N ops (⟨d,.indexAddr t x y,T,p,af,none⟩::rest) K s:=by
 refine qen rfl nofun fun B0 w0 G a w _ hI=>?_
 subst hi
 have he:=hI.eval_of hx
 have hey:=hI.evalv hy
 generalize hv:a.eval x=v at he
 have hlt:=lt_of_getElem? hz
 cases he with
 |sl0=>simp at hz
 |sl _ _ _ b off cap pub hp hw hlen hrel htip hcap=>
  have hzs:z.cells.length=sz:=hw z (List.mem_of_getElem? hz)
  have hfl:=jn hw
  have hle:(n+1) * sz≤xs.length * sz:=Nat.mul_le_mul_right _ hlt
  rw [Nat.succ_mul] at hle
  refine⟨.pointer (some ⟨b,off+n * sz,none⟩),.pp z.cells,fun w' _=>?_,?_,h⟩
  ·generalize a.eval = ρ at hv hey
   simp only [execOp,hv,hey]
   simp [Instr.indexAt,asIntOf,run_underlying hu,hlt,(xh ht w').1,Addr.add_lit]
  ·refine .pp _ b _ pub hp (by omega) fun j q r h1 h2=>?_
   have hj:j<sz:=by have:=lt_of_getElem? h1;omega
   have hf:=qhq hw hz j hj
   exact hrel (n * sz+j) q r (by rw [hf];exact h1) (by rw [← h2];congr 1;omega)
theorem qic {x y:Operand} {t e:TypeId} {sz:Nat} {agg:Bool} {o ver off len cp:Nat} {k:IntKind} {i:Int} {n:Nat} (hx:qj N s x = .os o ver off len cp) (hy:qj N s y = .v (.int k i)) (hu:E.P.underlying t=some (.slice e)) (ht:tyOf E.P e=some (sz,agg)) (hi:i=n) (hn:n<len)
  (h:AQ E N ops rest K (s.put d (.bx o ver (off+n * sz)))):AQ E N ops (⟨d,.indexAddr t x y,T,p,af,none⟩::rest) K s:=by
 refine qen rfl nofun fun B0 w0 G a w _ hI=>?_
 subst hi
 have he:=hI.eval_of hx
 have hey:=hI.evalv hy
 generalize hv:a.eval x=v at he
 cases he with
 |os _ _ _ _ b cap hn' hver hb=>
  refine⟨.pointer (some ⟨b,off+n * sz,none⟩),_,fun w' _=>?_,.bx o ver _ b hn' hver hb,h⟩
  generalize a.eval = ρ at hv hey
  simp only [execOp,hv,hey]
  simp [Instr.indexAt,asIntOf,run_underlying hu,hn,(xh ht w').1,Addr.add_lit]
theorem ja {t:TypeId} {x:Operand} {f off sz:Nat} {agg:Bool} {o ver q:Nat} (hx:qj N s x = .bx o ver q) (hf:qb2 E.P t f=some (off,sz,agg)) (hsz:Nat.beq sz 0=false)
  (h:AQ E N ops rest K (s.put d (.bx o ver (q+off)))):AQ E N ops (⟨d,.fieldAddr t x f,T,p,af,none⟩::rest) K s:=by
 refine qen rfl nofun fun B0 w0 G a w _ hI=>?_
 have he:=hI.eval_of hx
 generalize hv:a.eval x=v at he
 cases he with
 |bx _ _ _ b hn hv' hb=>
  have hs:sz≠0:=fun e=>by subst e;simp at hsz
  exact⟨_,_,fun w' _=>by simp only [execOp,hv];simp [qgb hf hs],.bx o ver _ b hn hv' hb,h⟩
theorem jb {t:TypeId} {x:Operand} {f off sz:Nat} {agg:Bool} {cs:List AV} (hx:qj N s x = .pp cs) (hf:qb2 E.P t f=some (off,sz,agg)) (hsz:Nat.beq sz 0=false) (hle:Nat.ble off cs.length=true)
  (h:AQ E N ops rest K (s.put d (.pp (cs.drop off)))):AQ E N ops (⟨d,.fieldAddr t x f,T,p,af,none⟩::rest) K s:=by
 refine qen rfl nofun fun B0 w0 G a w _ hI=>?_
 have he:=hI.eval_of hx
 generalize hv:a.eval x=v at he
 cases he with
 |pp _ b q pub hp hlen hrel=>
  have hs:sz≠0:=fun e=>by subst e;simp at hsz
  have ho:off≤cs.length:=Nat.le_of_ble_eq_true hle
  refine⟨.pointer (some ⟨b,q+off,none⟩),_,fun w' _=>by simp only [execOp,hv];simp [qgb hf hs],?_,h⟩
  exact .pp _ b (q+off) pub hp (by simp;omega) fun i x y h1 h2=>hrel (off+i) x y (by simpa using h1) (by rw [← h2];congr 1;omega)
theorem kp {x:Operand} {t:TypeId} {sz:Nat} {agg:Bool} {cs:List AV} {r:AV} (hx:qj N s x = .pp cs) (ht:tyOf E.P t=some (sz,agg)) (hr:xi sz agg 0 cs=some r)
  (h:AQ E N ops rest K (s.put d r)):AQ E N ops (⟨d,.load t x,T,p,af,none⟩::rest) K s:=by
 refine qen rfl nofun fun B0 w0 G a w _ hI=>?_
 have he:=hI.eval_of hx
 generalize hv:a.eval x=v at he
 cases he with
 |pp _ b off pub hp hlen hrel=>
  obtain⟨c,T',fz,hc,hcc⟩:=hI.agree.pub b pub hp
  have hlt:b<w.heap.size:=hI.agree.pub_lt hp
  have key:∀ w',Below w.heap.size w w'→∃ v,(loadVar t ⟨b,off,none⟩).run E.P w' = .ok v w'∧Rel G r v:=fun w' hw'=>by
   have h4':w'.heap[b]? = some (.cells c T' fz):=by rw [hw'.block _ hlt];exact hc
   exact qcs (w:=w') (G:=G) (b:=b) (off:=off) ht (fun i x hx _=>by
    have hi:=lt_of_getElem? hx
    have hy:pub[off+i]? = some (pub[off+i]'(by omega)):=List.getElem?_eq_getElem (by omega)
    refine⟨_,?_,hrel i x _ hx hy⟩
    simp [World.cell?,h4',hcc _ _ hy]) hr
  have hg:∀ w',Below w.heap.size w w'→∀ j,j<cs.length→w'.cell? ⟨b,off+j,none⟩=some (pub.getD (off+j) undef):=fun w' hw' j hj=>by
   have h4':w'.heap[b]? = some (.cells c T' fz):=by rw [hw'.block _ hlt];exact hc
   have hlt2:off+j<pub.length:=by omega
   have hy:pub[off+j]? = some (pub.getD (off+j) undef):=by simp [List.getD,hlt2]
   simp [World.cell?,h4',hcc _ _ hy]
  have hsame:∀ w',Below w.heap.size w w'→∀ v,(loadVar t ⟨b,off,none⟩).run E.P w = .ok v w→(loadVar t ⟨b,off,none⟩).run E.P w' = .ok v w':=fun w' hw' v hr1=>by
   obtain⟨i1,i2⟩:=xh ht w
   obtain⟨j1,j2⟩:=xh ht w'
   obtain⟨v',h1',_⟩:=key w' hw'
   rw [h1']
   congr 1
   cases agg with
   |false=>
    simp only [xi,cond_false] at hr
    have h0:=lt_of_getElem? hr
    have e1:=hg w (Below.refl _ _) 0 h0
    have e2:=hg w' hw' 0 h0
    rw [Nat.add_zero] at e1 e2
    simp [loadVar,i2,run_load,e1] at hr1
    simp [loadVar,j2,run_load,e2] at h1'
    rw [← h1',hr1]
   |true=>
    simp only [xi,cond_true] at hr
    cases hb2:Nat.ble (0+sz) cs.length with
    |false=>rw [hb2] at hr;simp at hr
    |true=>
     have hle:0+sz≤cs.length:=Nat.le_of_ble_eq_true hb2
     have l1:=run_loadCells (P:=E.P) (w:=w) ⟨b,off,none⟩ sz (fun j=>pub.getD (off+j) undef) (fun j hj=>by rw [Addr.add_lit];exact hg w (Below.refl _ _) j (by omega))
     have l2:=run_loadCells (P:=E.P) (w:=w') ⟨b,off,none⟩ sz (fun j=>pub.getD (off+j) undef) (fun j hj=>by rw [Addr.add_lit];exact hg w' hw' j (by omega))
     simp [loadVar,i1,i2,l1] at hr1
     simp [loadVar,j1,j2,l2] at h1'
     rw [← h1',hr1]
  obtain⟨v,hrun,hR⟩:=key w (Below.refl _ _)
  exact⟨v,r,fun w' hw'=>by simp only [execOp,hv,Instr.loadAt,Instr.sureAddr];simp [hsame w' hw' v hrun],hR,h⟩
theorem yt {x y:Operand} {t t':TypeId} {k:IntKind} {m n r:Int} (hx:qj N s x = .v (.int k m)) (hy:qj N s y = .v (.int k n)) (hr:k.wrap (m - n)=r)
  (h:AQ E N ops rest K (s.put d (.v (.int k r)))):AQ E N ops (⟨d,.binOp .sub t x y t',T,p,af,none⟩::rest) K s:=
 qb4 _ rfl nofun (fun a w he=>by rw [← hr];simp [execOp,he _ _ hx,he _ _ hy,eqGuard_at_int,binOp,Op.intArith]) h
theorem xo {x y z:Operand} {t:TypeId} {k k':IntKind} {l:List UInt8} {i j:Nat} (hx:qj N s x=Sv l) (hy:qj N s y = .v (.int k' (i:Int))) (hz:qj N s z = .v (.int k (j:Int))) (hu:E.P.underlying t=some .string) (h1:i≤j) (h2:j≤l.length)
  (h:AQ E N ops rest K (s.put d (Sv ((l.take j).drop i)))):AQ E N ops (⟨d,.slice t x (some y) (some z) none,T,p,af,none⟩::rest) K s:=
 qnz (i:=i) (j:=j) hx hu ⟨_,hy⟩ ⟨_,hz⟩ (by omega) (by omega) (by omega) (by simpa using h)
theorem xm {x:Operand} {ts:Array TypeId} {t0 e:TypeId} {v:AV} {n:Nat} (hx:qj N s x=v) (hl:lenA v=some n) (ht:ts[0]? = some t0) (hu:E.P.underlying t0=some (.slice e))
  (h:AQ E N ops rest K (s.put d (Iv n))):AQ E N ops (⟨d,.call ⟨.builtin .len,#[x],ts⟩,T,p,af,none⟩::rest) K s:=by
 refine qen rfl nofun fun B0 w0 G a w _ hI=>?_
 have he:=hI.eval_of hx
 have key:∃ b c,a.eval x = .slice b n c:=by
  generalize a.eval x=u at he
  cases he <;> simp [lenA] at hl
  case v y=>
   cases u <;> simp at hl
   subst hl
   exact⟨_,_,rfl⟩
  case sl0=>subst hl;exact⟨_,_,rfl⟩
  case sl=>subst hl;exact⟨_,_,rfl⟩
  case os=>subst hl;exact⟨_,_,rfl⟩
 obtain⟨b,c,hv⟩:=key
 refine⟨.int .i64 n,Iv n,fun w' _=>?_,.v _,h⟩
 generalize a.eval = ρ at hv
 simp [execOp,resolve,invoke,builtin,Builtin.len_,hv,ht,run_underlying hu,goInt]
theorem ka {x:Operand} {t:TypeId} {sz:Nat} {agg:Bool} {st loc ext new:List AObj} {k ver off:Nat} {T':TypeId} {cs:List AV} {r:AV} (hs:s.st=((st++loc)++ext)++new) (hx:qj N s x = .bx (st.length+k) ver off) (ho:loc[k]? = some (.cells ver T' cs)) (ht:tyOf E.P t=some (sz,agg)) (hr:xi sz agg off cs=some r)
  (h:AQ E N ops rest K (s.put d r)):AQ E N ops (⟨d,.load t x,T,p,af,none⟩::rest) K s:=
 qpg hx (by rw [hs];exact qcm ho) ht hr h
end
end Go.Av
namespace Go.Av
open Go Go.RowKit
section
variable {B0 : Nat} {w0 : World} {G : Gh} {st : List AObj} {w : World}
theorem zl.pubOb (h:zl B0 w0 G st w) {o ver:Nat} {T:TypeId} {cs:List AV} (ho:st[o]? = some (.cells ver T cs)) :
  ∃ vs:List Value,G.le (G.publish (G.ob o).blk vs)∧zl B0 w0 (G.publish (G.ob o).blk vs) (st.set o .dead) w∧(G.ob o).ver=ver∧(G.publish (G.ob o).blk vs).pub (G.ob o).blk=some vs∧cs.length=vs.length ∧
   ∀ (i:Nat) (x:AV) (y:Value),cs[i]? = some x→vs[i]? = some y→Rel (G.publish (G.ob o).blk vs) x y:=by
 obtain⟨h0,h1,h2,h3,c,h4,h5,h6⟩:=h.ob o _ ho
 have hle:G.le (G.publish (G.ob o).blk c.toList):=G.le_publish _ _ [] [] (.inl h3)
 refine⟨c.toList,hle,?_,h1,by simp [Gh.publish],by simpa using h5,fun i x y hx hy=>(h6 i x y hx (by simpa using hy)).mono hle⟩
 have key:∀ (k:Nat) (x:AObj),(st.set o .dead)[k]? = some x→x = .dead∨(k≠o∧st[k]? = some x):=fun k x hx=>by
  rcases getElem?_set' _ _ _ _ _ hx with⟨_,e⟩|e
  ·exact .inl e
  ·exact .inr e
 refine⟨h.below,h.hB,by simp [h.n,Gh.publish],fun b vs hb=>?_,fun k x hx=>?_,fun k k' x x' hne hx hx' hl hl'=>?_⟩
 ·simp only [Gh.publish] at hb
  by_cases e:b=(G.ob o).blk
  ·rw [if_pos e] at hb
   cases hb
   subst e
   exact⟨c,T,(0,0),h4,fun i y hy=>by simpa using hy⟩
  ·rw [if_neg e] at hb
   exact h.pub b vs hb
 ·rcases key k x hx with rfl | ⟨hk,hx⟩
  ·trivial
  ·refine (h.ob k x hx).mono hle rfl (fun hl=>?_) (fun _=>rfl)
   have:=h.sep k o x _ hk hx ho hl trivial
   simp [Gh.publish,this]
 ·rcases key k x hx with rfl | ⟨hk,hx⟩
  ·exact hl.elim
  ·rcases key k' x' hx' with rfl | ⟨hk',hx'⟩
   ·exact hl'.elim
   ·exact h.sep k k' x x' hne hx hx' hl hl'
end
section
variable {E : Env} {rd : Option Nat} {N : Nat} {ops : Array Oper} {K : AS → Prop} {s : AS} {rest : List Oper} {d : Option Tmp} {T : TypeId} {p : String} {af : Array Edge}
theorem Inv.pub {B0:Nat} {w0:World} {G:Gh} {a:Act} {w:World} (h:Inv B0 w0 N G s a w) {i o ver:Nat} {T':TypeId} {cs:List AV} (hi:s.t i = .bx o ver 0) (ho:s.st[o]? = some (.cells ver T' cs)) :
  ∃ G',G.le G'∧Inv B0 w0 N G' ⟨Av.put s.t i (.pp cs),s.st.set o .dead,s.df⟩ a w:=by
 obtain⟨vs,hle,hA,hv,hp,hl,hr⟩:=h.agree.pubOb ho
 refine⟨_,hle,hA,h.defers_mono hle,h.size,fun j y hy=>?_⟩
 have hj:=h.tmps j y hy
 by_cases e:j=i
 ·subst e
  simp only [y8]
  rw [hi] at hj
  cases hj with
  |bx _ _ _ b hn hv' hb=>
   have hb:=hb hv
   subst hb
   exact .pp cs _ 0 vs hp (by omega) fun k x y hx hy=>hr k x y hx (by simpa using hy)
 ·simp only
  rw [qbj _ _ _ _ e]
  exact hj.mono hle
theorem jk {x y:Operand} {t:TypeId} {sz:Nat} {agg:Bool} {st loc loc' ext new:List AObj} {k ver off:Nat} {T':TypeId} {cs xs:List AV} {r:AV} (hs:s.st=((st++loc)++ext)++new) (hx:qj N s x = .bx (st.length+k) ver off) (hy:qj N s y=r) (ho:loc[k]? = some (.cells ver T' cs)) (ht:tyOf E.P t=some (sz,agg))
  (hok:r.okc=true) (hc:r.cells=xs) (hsz:Nat.beq xs.length sz=true) (h1:wj xs=true) (hfit:Nat.ble (off+sz) cs.length=true) (hl:loc'=loc.set k (.cells ver T' (jz cs off xs)))
  (h:AOps E rd N ops rest K (AS.put ⟨s.t,((st++loc')++ext)++new,s.df⟩ d (.v undef))):AOps E rd N ops (⟨d,.store t x y,T,p,af,none⟩::rest) K s:=by
 have hk:=lt_of_getElem? ho
 exact qc4 hx hy (by rw [hs];exact qcm ho) ht hok hc hsz h1 hfit (by rw [hs,qfc _ hk,← hl];exact h)
end
theorem qdu {α : Type} (l:List α) (a : α):(l++[a]).length=l.length+1:=by simp
theorem qrp {α : Type} (l:List α) (a : α):Iv ((l.length:Int)+1)=Iv ((l++[a]).length:Nat):=by rw [qdu];rfl
theorem q8i {α : Type} {sz:Nat} {tip:Option Nat} (x0:AV) (g : α→AV) (pre:List α) (a : α) (v:AV) (h:v=g a):AV.sl sz ((x0::pre.map g)++[v]) tip=AV.sl sz (x0::(pre++[a]).map g) tip:=by rw [List.map_append,h];rfl
theorem qpe {E:Env} {rd:Option Nat} {N:Nat} {ops:Array Oper} {K:AS→Prop} {s:AS} {rest:List Oper} {d:Option Tmp} {T:TypeId} {p:String} {af:Array Edge} {x y:Operand} {t:TypeId} {sz:Nat} {agg:Bool} {st loc ext new:List AObj} {k ver off:Nat} {T':TypeId} {cs xs:List AV} {r:AV} (hs:s.st=((st++loc)++ext)++new) (hx:qj N s x = .bx (st.length+k) ver off) (hy:qj N s y=r) (ho:loc[k]? = some (.cells ver T' cs)) (ht:tyOf E.P t=some (sz,agg))
  (hok:r.okc=true) (hc:r.cells=xs) (hsz:xs.length=sz) (h1:wj xs=true) (hfit:off+sz≤cs.length)
  (h:AOps E rd N ops rest K (AS.put ⟨s.t,((st++loc.set k (.cells ver T' (jz cs off xs)))++ext)++new,s.df⟩ d (.v undef))):AOps E rd N ops (⟨d,.store t x y,T,p,af,none⟩::rest) K s:=by
 have hk:=lt_of_getElem? ho
 exact qfi hx hy (by rw [hs];exact qcm ho) ht hok hc hsz (by simpa [wj] using h1) hfit (by rw [hs,qfc _ hk];exact h)
theorem qe3 {E:Env} {rd:Option Nat} {N:Nat} {c:Code} {Q:Exit→AS→Prop} {s:AS} {α : Type} (xs:List α) (I:List α→AS→Prop) (h0:I [] s) (hend:∀ s,I xs s→AWp E rd N c (quu (fun _=>False) Q) s)
  (hstep:∀ pre a rest s,xs=pre++a::rest→I pre s→AWp E rd N c (quu (fun s'=>I (pre++[a]) s') Q) s):AWp E rd N (.loop c) Q s:=by
 refine yl (fun (x:List α×List α) s=>xs=x.1++x.2∧I x.1 s) (fun x=>x.2.length) ([],xs) ⟨rfl,h0⟩ ?_
 rintro⟨pre,rest⟩ s ⟨hx,hi⟩
 cases rest with
 |nil=>
  simp only [List.append_nil] at hx
  subst hx
  refine (hend s hi).mono fun e s' h=>?_
  cases e with
  |normal=>exact h.elim
  | _=>exact h
 |cons a rest=>
  refine (hstep pre a rest s hx hi).mono fun e s' h=>?_
  cases e with
  |normal=>exact⟨(pre++[a],rest),⟨by rw [hx];simp,h⟩,by simp⟩
  | _=>exact h
end Go.Av
namespace Go.Pl
open Go Go.Proofs
abbrev Fld:=qe×qe
def qcd (s:qe):Prop:=∀ c∈s,yo c
instance (s:qe):Decidable (qcd s):=inferInstanceAs (Decidable (∀ c∈s,yo c))
def xv (s:qe):qe:=if qcd s∨s.head? = some 46 then 46::s else s
def v8 (key p:qe):qe:=key++[58]++if p=[] then [] else [32]++p
def zy (f:Fld):List qe:=v8 f.1 ((qu f.2).headD [])::(qu f.2).tail.map fun s=>[32]++xv s
def zv (ls:List qe):qe:=ls.flatMap fun s=>s++[10]
def jy (xs:List Fld):qe:=xs.flatMap fun f=>zv (zy f)
def ww (f:Fld):Int:=if ¬ qau f.1 then 5 else if 1000<f.2.length then 6 else 0
def wt (f:Fld):Prop:=qau f.1∧f.2.length≤1000
instance (f:Fld):Decidable (wt f):=inferInstanceAs (Decidable (_∧_))
theorem qc7 (f:Fld):ww f=0↔wt f:=by
 unfold ww wt
 by_cases h:qau f.1
 ·by_cases h2:1000<f.2.length
  ·simp [h,h2]
  ·simp [h,h2];omega
 ·simp [h]
def yi (c:UInt8) (l:qe):qe:=if l.head? = some c then l.drop 1 else l
theorem qse (c:UInt8) (l:qe):Lib.trimPrefix l [c]=yi c l:=by
 unfold Lib.trimPrefix yi
 rw [qk2]
 simp
def qbz (l:qe) (r:List qe):qe:=yi 32 (wn l)++r.flatMap fun s=>[10]++yi 46 (s.drop 1)
def qo1 (ls:List qe):Prop:=ls≠[]∧qs (ls.headD [])=4∧∀ s∈ls.tail,qs s=3
instance (ls:List qe):Decidable (qo1 ls):=inferInstanceAs (Decidable (_∧_∧_))
def jp (ls:List qe):Fld×Int:=
 if qo1 ls then
  if 1000<(qbz (ls.headD []) ls.tail).length then (([],[]),6) else ((jt (ls.headD []),qbz (ls.headD []) ls.tail),0)
 else (([],[]),2)
theorem qfs (l:qe):qu l≠[]:=by
 by_cases h:10∈l
 ·rw [qaj h];simp
 ·rw [qak h];simp
theorem qke (l:qe):qu l=(qu l).headD []::(qu l).tail:=by
 cases h:qu l with
 |nil=>exact absurd h (qfs l)
 |cons a r=>rfl
theorem qg6:∀ (n:Nat) (l:qe),l.length≤n→(qu l).headD []++(qu l).tail.flatMap (fun s=>[10]++s)=l
 |n,l,hn=>by
  by_cases h:10∈l
  ·rw [qaj h]
   have hne:l≠[]:=fun e=>by subst e;simp at h
   have hlt:=qat (c:=10) hne
   cases n with
   |zero=>omega
   |succ n=>
    have ih:=qg6 n (past 10 l) (by omega)
    simp only [List.headD_cons,List.tail_cons]
    rw [qke (past 10 l)]
    simp only [List.flatMap_cons]
    rw [List.append_assoc,ih]
    have:=qbr h
    simp [← this]
  ·rw [qak h];simp
theorem qd8 (l:qe):∀ x∈qu l,10∉x:=fun x hx=>(qgq l.length l (Nat.le_refl _) x hx).2
theorem qek (l:qe):∀ x∈qu l,x.length≤l.length:=fun x hx=>(qgq l.length l (Nat.le_refl _) x hx).1
theorem qoc (l:qe):(qu l).headD []∈qu l:=by
 have h:=qfs l
 cases e:qu l with
 |nil=>exact absurd e h
 |cons a r=>simp
theorem qzo (s:qe):yi 46 (xv s)=s:=by
 unfold xv yi
 by_cases h:qcd s∨s.head? = some 46
 ·rw [if_pos h];simp
 ·rw [if_neg h,if_neg (fun h'=>h (.inr h'))]
theorem qsa (s:qe):¬ qcd (xv s):=by
 unfold xv
 by_cases h:qcd s∨s.head? = some 46
 ·rw [if_pos h]
  intro h'
  have:=h' 46 (by simp)
  revert this;decide
 ·rw [if_neg h]
  exact fun h'=>h (.inl h')
theorem qq3 {s:qe} (h:10∉s):10∉xv s:=by
 unfold xv
 split
 ·simp [h]
 ·exact h
theorem qtq (s:qe):(xv s).length≤s.length+1:=by
 unfold xv
 split <;> simp
theorem qta (s:qe) (h:10∉s):qs ([32]++xv s)=3:=by
 have hn:=qq3 h
 have hb:=qsa s
 unfold qs
 have h10:10∉([32]++xv s):=by simp [hn]
 rw [if_neg h10,if_neg (fun h'=>hb fun c hc=>h' c (by simp [hc])),if_neg (by simp),if_pos ⟨32,by simp,.inl rfl⟩]
theorem qi3 {k r:qe} (h:58∉k):jt (k++[58]++r)=k:=by
 unfold jt
 induction k with
 |nil=>simp
 |cons a k ih=>
  simp only [List.mem_cons,not_or] at h
  have:(58:UInt8)≠a:=h.1
  simp only [List.cons_append,List.takeWhile_cons]
  rw [if_pos (by simpa using fun e=>this e.symm)]
  rw [ih h.2]
theorem qxu {k r:qe} (h:58∉k):wn (k++[58]++r)=r:=by
 unfold wn
 rw [qi3 h]
 rw [List.drop_append_of_le_length (by simp)]
 simp
theorem qim {k:qe} (h:qau k):∃ c,k.head? = some c∧¬ yo c∧c≠35:=by
 obtain⟨h1,h2,h3,h4,h5,h6⟩:=h
 cases k with
 |nil=>exact absurd rfl h1
 |cons a r=>exact⟨a,rfl,fun hb=>h3 ⟨a,rfl,hb⟩,fun e=>h4 (by simp [e])⟩
theorem qs9 {k p:qe} (h:qau k) (hp:10∉p):qs (v8 k p)=4:=by
 obtain⟨c,hc,hb,h35⟩:=qim h
 have hk10:10∉k:=h.2.2.2.2.2
 have hk58:58∉k:=h.2.2.2.2.1
 have hh:(v8 k p).head? = some c:=by
  unfold v8
  cases k with
  |nil=>simp at hc
  |cons a r=>simpa using hc
 have e:v8 k p=k++[58]++(if p=[] then [] else [32]++p):=rfl
 have h10:10∉v8 k p:=by
  rw [e]
  split <;> simp [hk10,hp]
 have hmem:c∈v8 k p:=List.mem_of_head? hh
 unfold qs
 rw [if_neg h10,if_neg (fun h'=>hb (h' c hmem)),if_neg (by rw [hh];simpa using h35),if_neg (fun ⟨d,hd,hd'⟩=>by rw [hh] at hd;cases hd;exact hb hd')]
 rw [if_pos]
 refine⟨by rw [e];simp,?_⟩
 rw [e,qi3 hk58]
 exact h
theorem q4b (k p:qe) (h:58∉k):yi 32 (wn (v8 k p))=p:=by
 unfold v8
 rw [qxu h]
 by_cases hp:p=[]
 ·rw [if_pos hp];simp [yi,hp]
 ·rw [if_neg hp];simp [yi]
theorem qt8 {f:Fld} (h:wt f):jp (zy f)=(f,0):=by
 obtain⟨hk,hv⟩:=h
 have hk58:58∉f.1:=hk.2.2.2.2.1
 have h10:=qd8 f.2
 have hval:qbz (v8 f.1 ((qu f.2).headD [])) ((qu f.2).tail.map fun s=>[32]++xv s)=f.2:=by
  unfold qbz
  rw [q4b _ _ hk58]
  have:((qu f.2).tail.map fun s=>[32]++xv s).flatMap (fun s=>[10]++yi 46 (s.drop 1))=(qu f.2).tail.flatMap (fun s=>[10]++s):=by
   rw [List.flatMap_map]
   congr 1
   funext s
   simp [qzo]
  rw [this,qg6 _ _ (Nat.le_refl _)]
 unfold jp zy
 rw [if_pos]
 ·simp only [List.headD_cons,List.tail_cons]
  refine (if_neg (by rw [hval];omega)).trans ?_
  have:jt (v8 f.1 ((qu f.2).headD []))=f.1:=qi3 hk58
  rw [this,hval]
 ·refine⟨by simp,?_,?_⟩
  ·simp only [List.headD_cons]
   exact qs9 hk (h10 _ (qoc _))
  ·intro s hs
   simp only [List.tail_cons,List.mem_map] at hs
   obtain⟨x,hx,rfl⟩:=hs
   exact qta x (h10 x (List.mem_of_mem_tail hx))
end Go.Pl
namespace Go.Av
open Go Go.RowKit
section
variable {E : Env} {rd : Option Nat} {N : Nat} {ops : Array Oper} {K : AS → Prop} {s : AS} {rest : List Oper} {d : Option Tmp} {T : TypeId} {p : String} {af : Array Edge}
theorem qbt {t e:TypeId} {len sz:Nat} {agg:Bool} {parts:Array (Nat×Operand)} {zs cs:List AV} {st loc:List AObj} (hst:s.st=st++loc) (hu:E.P.underlying t=some (.slice e)) (ht:tyOf E.P e=some (sz,agg)) (hz:qfv E.P e len=some zs)
  (hf:qcy (fun i=>some (i * sz,sz)) zs (x6 N s parts)=some cs) (hsz:Nat.ble (len * sz) 16777216=true)
  (h:AOps E rd N ops rest K (AS.put ⟨s.t,st++(loc++[.cells 0 e cs]),s.df⟩ d (.os (st.length+loc.length) 0 0 len len))):AOps E rd N ops (⟨d,.buildSlice t len parts,T,p,af,none⟩::rest) K s:=by
 refine q7 rfl (qz nofun fun B0 w0 G a w _ hI=>?_)
 obtain⟨c',hrun,h2⟩:=qjb (d:=d) (T:=T) (p:=p) (af:=af) hI hu ht hz hf hsz
 have hA:=hI.agree.newCells e c' cs h2.1 h2.2
 have hn:=hI.agree.n
 rw [hst] at hA hn
 simp only [List.append_assoc,List.length_append] at hA hn
 exact⟨_,_,_,_,_,hrun,G.le_new _ _ _ _,hA,.os _ _ _ _ _ _ (by simp [Gh.new,hn]) (Nat.zero_le _) (fun _=>by simp [Gh.new,hn]),h⟩
theorem zl.ownTip {B0:Nat} {w0:World} {G:Gh} {st:List AObj} {w:World} (h:zl B0 w0 G st w) {o sz len cap:Nat} {T:TypeId} {cs:List AV} {xs:List AV} (ho:st[o]? = some (.cells 0 T cs)) (hc:cs.length=cap * sz) (hlen:xs.length=len) (h0:0<len) (hle:len≤cap) (hcm:cap≤maxLen) (hw:∀ x∈xs,x.cells.length=sz) (hfl:flat xs=cs.take (len * sz)) :
  ∃ G',G.le G'∧zl B0 w0 G' (st.set o (.tip len sz T)) w∧Rel G' (.sl sz xs (some o)) (.slice (some ⟨(G.ob o).blk,0,none⟩) len cap):=by
 subst hlen
 have hon:=lt_of_getElem? ho
 obtain⟨g0,g1,g2,g3,c,g4,g5,g6⟩:=h.ob o _ ho
 have hle1:G.le (G.publish (G.ob o).blk (c.toList.take (xs.length * sz))):=G.le_publish _ _ [] [] (.inl g3)
 -- dead, published
 have key:∀ (k:Nat) (x:AObj),(st.set o .dead)[k]? = some x→x = .dead∨(k≠o∧st[k]? = some x):=fun k x hx=>by
  rcases getElem?_set' _ _ _ _ _ hx with⟨_,e⟩|e
  ·exact .inl e
  ·exact .inr e
 have hA1:zl B0 w0 (G.publish (G.ob o).blk (c.toList.take (xs.length * sz))) (st.set o .dead) w:=by
  refine⟨h.below,h.hB,by simp [h.n,Gh.publish],fun b vs hb=>?_,fun k x hx=>?_,fun k k' x x' hne hx hx' hl hl'=>?_⟩
  ·simp only [Gh.publish] at hb
   by_cases e:b=(G.ob o).blk
   ·rw [if_pos e] at hb
    cases hb
    subst e
    refine⟨c,T,(0,0),g4,fun i y hy=>?_⟩
    rw [List.getElem?_take] at hy
    split at hy
    ·simpa using hy
    ·simp at hy
   ·rw [if_neg e] at hb
    exact h.pub b vs hb
  ·rcases key k x hx with rfl | ⟨hk,hx⟩
   ·trivial
   ·refine (h.ob k x hx).mono hle1 rfl (fun hl=>?_) (fun _=>rfl)
    have:=h.sep k o x _ hk hx ho hl trivial
    simp [Gh.publish,this]
  ·rcases key k x hx with rfl | ⟨hk,hx⟩
   ·exact hl.elim
   ·rcases key k' x' hx' with rfl | ⟨hk',hx'⟩
    ·exact hl'.elim
    ·exact h.sep k k' x x' hne hx hx' hl hl'
 have hvl:(c.toList.take (xs.length * sz)).length=xs.length * sz:=by
  have:xs.length * sz≤cap * sz:=Nat.mul_le_mul_right _ hle
  simp
  omega
 obtain⟨hle2,hA2⟩:=hA1.setTip (t:=o) (n:=0) (n':=xs.length) (k:=(G.ob o).blk) (cap:=c.size) (sz:=sz) (T:=T) (c:=c) (vs:=c.toList.take (xs.length * sz)) (by simp [hon]) g0 g1 h0 g4 (by simp [Gh.publish]) hvl rfl g2 (fun k x hx hl=>by
  rcases key k x hx with rfl | ⟨hk,hx⟩
  ·exact hl.elim
  ·exact h.sep k o x _ hk hx ho hl trivial)
 rw [List.set_set] at hA2
 refine⟨_,hle1.trans hle2,hA2,?_⟩
 have hgn:o<G.n:=by rw [h.n];exact hon
 refine .sl sz xs (some o) (G.ob o).blk 0 cap (c.toList.take (xs.length * sz)) (by simp [Gh.setOb,Gh.publish]) hw (by rw [hfl,hvl];simp;omega) (fun i x y h1 h2=>?_) (fun t ht=>?_) (by omega)
 ·rw [hfl] at h1
  rw [Nat.zero_add] at h2
  rw [List.getElem?_take] at h1 h2
  split at h1
  ·rename_i hi
   rw [if_pos hi] at h2
   exact ((g6 i x y h1 (by simpa using h2)).mono hle1).mono hle2
  ·simp at h1
 ·simp only [Option.some.injEq] at ht
  subst ht
  refine⟨by simpa [Gh.setOb,Gh.publish] using hgn,by omega,by simp [Gh.setOb],fun _=>⟨by simp [Gh.setOb],rfl,by simp [Gh.setOb,← g5,hc],hcm,by omega⟩⟩
theorem Inv.osTip {B0:Nat} {w0:World} {G:Gh} {a:Act} {w:World} (h:Inv B0 w0 N G s a w) {i o sz len cap:Nat} {T':TypeId} {cs xs:List AV} (hi:s.t i = .os o 0 0 len cap) (ho:s.st[o]? = some (.cells 0 T' cs)) (hc:cs.length=cap * sz) (hlen:xs.length=len) (h0:0<len) (hle:len≤cap) (hcm:cap≤maxLen) (hw:∀ x∈xs,x.cells.length=sz) (hfl:flat xs=cs.take (len * sz)) :
  ∃ G',G.le G'∧Inv B0 w0 N G' ⟨Av.put s.t i (.sl sz xs (some o)),s.st.set o (.tip len sz T'),s.df⟩ a w:=by
 obtain⟨G',hG,hA,hR⟩:=h.agree.ownTip ho hc hlen h0 hle hcm hw hfl
 obtain⟨_,g1,_⟩:=h.agree.ob o _ ho
 refine⟨G',hG,hA,h.defers_mono hG,h.size,fun j y hy=>?_⟩
 have hj:=h.tmps j y hy
 by_cases e:j=i
 ·subst e
  simp only [y8]
  rw [hi] at hj
  cases hj with
  |os _ _ _ _ b _ hn hv hb=>
   have hb:=hb g1
   subst hb
   exact hR
 ·simp only
  rw [qbj _ _ _ _ e]
  exact hj.mono hG
theorem q3i {c:Code} {Q:Exit→AS→Prop} (i:Nat) {o sz len cap:Nat} {T':TypeId} {cs xs:List AV} (hi:s.t i = .os o 0 0 len cap) (ho:s.st[o]? = some (.cells 0 T' cs)) (hc:cs.length=cap * sz) (hlen:xs.length=len) (h0:0<len) (hle:len≤cap) (hcm:cap≤maxLen) (hw:∀ x∈xs,x.cells.length=sz) (hfl:flat xs=cs.take (len * sz))
  (h:AWp E rd N c Q ⟨Av.put s.t i (.sl sz xs (some o)),s.st.set o (.tip len sz T'),s.df⟩):AWp E rd N c Q s:=
 ⟨fun B0 w0 G a w hL hI=>let ⟨G1,h1,h2⟩:=hI.osTip hi ho hc hlen h0 hle hcm hw hfl;wpIn_mono (h.run B0 w0 _ a w hL h2) fun _ _ _ ⟨G',s',hG,k1,k2⟩=>⟨G',s',h1.trans hG,k1,k2⟩⟩
theorem q0w {l:List Oper} (i:Nat) {o sz len cap:Nat} {T':TypeId} {cs xs:List AV} (hi:s.t i = .os o 0 0 len cap) (ho:s.st[o]? = some (.cells 0 T' cs)) (hc:cs.length=cap * sz) (hlen:xs.length=len) (h0:0<len) (hle:len≤cap) (hcm:cap≤maxLen) (hw:∀ x∈xs,x.cells.length=sz) (hfl:flat xs=cs.take (len * sz))
  (h:AOps E rd N ops l K ⟨Av.put s.t i (.sl sz xs (some o)),s.st.set o (.tip len sz T'),s.df⟩):AOps E rd N ops l K s:=
 ⟨fun B0 w0 G a w hL hI Q hQ=>let ⟨G1,h1,h2⟩:=hI.osTip hi ho hc hlen h0 hle hcm hw hfl;h.run B0 w0 _ a w hL h2 Q fun G' s' a' w' hG k1 k2=>hQ G' s' a' w' (h1.trans hG) k1 k2⟩
theorem Inv.osPub {B0:Nat} {w0:World} {G:Gh} {a:Act} {w:World} (h:Inv B0 w0 N G s a w) {i o ver off sz len cap:Nat} {T':TypeId} {cs xs:List AV} (hi:s.t i = .os o ver off len cap) (ho:s.st[o]? = some (.cells ver T' cs)) (hlen:xs.length=len) (hle:len≤cap) (hw:∀ x∈xs,x.cells.length=sz) (hin:off+len * sz≤cs.length) (hfl:flat xs=(cs.drop off).take (len * sz)) :
  ∃ G',G.le G'∧Inv B0 w0 N G' ⟨Av.put s.t i (.sl sz xs none),s.st.set o .dead,s.df⟩ a w:=by
 obtain⟨vs,hle1,hA,hv,hp,hl,hr⟩:=h.agree.pubOb ho
 refine⟨_,hle1,hA,h.defers_mono hle1,h.size,fun j y hy=>?_⟩
 have hj:=h.tmps j y hy
 by_cases e:j=i
 ·subst e
  simp only [y8]
  rw [hi] at hj
  cases hj with
  |os _ _ _ _ b _ hn hv' hb=>
   have hb:=hb hv
   subst hb
   rw [← hlen]
   refine .sl sz xs none _ off cap vs hp hw (by rw [hfl];simp;omega) (fun k x y hx hy=>?_) (fun t ht=>by simp at ht) (by omega)
   rw [hfl,List.getElem?_take] at hx
   split at hx
   ·rw [List.getElem?_drop] at hx
    exact hr _ x y hx hy
   ·simp at hx
 ·simp only
  rw [qbj _ _ _ _ e]
  exact hj.mono hle1
theorem qq0 {P:Program} {t e:TypeId} {sz:Nat} {agg:Bool} (hu:P.underlying t=some (.slice e)) (ht:tyOf P e=some (sz,agg)) (a:Option Addr) (len cap:Nat) (lo hi:Option Value) (i j:Nat) (w:World)
  (hlo:match lo with|none=>i=0|some v=>∃ k,v = .int k (i:Int)) (hhi:match hi with|none=>j=len|some v=>(∃ k,v = .int k (j:Int))∧j≤cap) (h1:i≤j) :
  (Instr.slice t (.slice a len cap) lo hi none).run P w = .ok (.slice (if cap=i then a else a.map (·.add (i * sz))) (j - i) (cap - i)) w:=by
 have hs:=(xh ht w).1
 cases lo with
 |none=>
  simp only at hlo
  subst hlo
  cases hi with
  |none=>
   simp only at hhi
   subst hhi
   simp [Instr.slice,run_underlying hu,Instr.sliceBounds,hs]
  |some v=>
   obtain⟨⟨k,rfl⟩,h2⟩:=hhi
   simp [Instr.slice,run_underlying hu,Instr.sliceBounds,Instr.sliceBound,asIntOf,hs,h2]
 |some u=>
  obtain⟨k',rfl⟩:=hlo
  cases hi with
  |none=>
   simp only at hhi
   subst hhi
   simp [Instr.slice,run_underlying hu,Instr.sliceBounds,Instr.sliceBound,asIntOf,hs,h1]
  |some v=>
   obtain⟨⟨k,rfl⟩,h2⟩:=hhi
   simp [Instr.slice,run_underlying hu,Instr.sliceBounds,Instr.sliceBound,asIntOf,hs,h1,h2]
theorem qqw {G:Gh} {sz:Nat} {xs:List AV} {tip:Option Nat} {a:Option Addr} {len cap:Nat} (h:Rel G (.sl sz xs tip) (.slice a len cap)) {i j:Nat} (h1:i≤j) (h2:j≤xs.length) :
  len=xs.length∧len≤cap∧Rel G (.sl sz ((xs.take j).drop i) none) (.slice (if cap=i then a else a.map (·.add (i * sz))) (j - i) (cap - i)):=by
 cases h with
 |sl0=>
  simp at h2
  subst h2
  have:i=0:=by omega
  subst this
  refine⟨rfl,Nat.zero_le _,?_⟩
  simp
  exact .sl0 sz none _ _ (by simp)
 |sl _ _ _ b off cap pub hp hw hlen hr ht hcap=>
  refine⟨rfl,hcap,?_⟩
  have hl:((xs.take j).drop i).length=j - i:=by simp;omega
  by_cases hji:j=i
  ·subst hji
   have e:(xs.take j).drop j=[]:=List.length_eq_zero_iff.1 (by rw [hl];omega)
   rw [e,Nat.sub_self]
   exact .sl0 sz none _ _ (by simp)
  ·have hne:cap≠i:=by omega
   rw [if_neg hne]
   simp only [Option.map_some]
   have hadd:Addr.add ⟨b,off,none⟩ (i * sz)=⟨b,off+i * sz,none⟩:=Addr.add_lit ..
   rw [hadd,← hl]
   have hw':∀ x∈(xs.take j).drop i,x.cells.length=sz:=fun x hx=>hw x (List.mem_of_mem_take (List.mem_of_mem_drop hx))
   have hfx:(flat xs).length=xs.length * sz:=jn hw
   have hsplit:flat xs=flat (xs.take i)++flat ((xs.take j).drop i)++flat (xs.drop j):=by
    have e:xs.take i++(xs.take j).drop i=xs.take j:=by
     conv=>rhs;rw [← List.take_append_drop i (xs.take j),List.take_take,Nat.min_eq_left h1]
    rw [← qah,← qah,e,List.take_append_drop]
   have hti:(flat (xs.take i)).length=i * sz:=by
    rw [jn (fun x hx=>hw x (List.mem_of_mem_take hx)),List.length_take,Nat.min_eq_left (by omega)]
   have hmid:(flat ((xs.take j).drop i)).length=(j - i) * sz:=by rw [jn hw',hl]
   refine .sl sz _ none b (off+i * sz) (cap - i) pub hp hw' ?_ (fun k x y hx hy=>?_) (fun t ht=>by simp at ht) (by rw [hl];omega)
   ·have:=congrArg List.length hsplit
    simp only [List.length_append] at this
    omega
   ·refine hr (i * sz+k) x y ?_ (by rw [← hy];congr 1;omega)
    have hk:=lt_of_getElem? hx
    rw [hsplit,List.append_assoc,List.getElem?_append_right (by omega),hti,Nat.add_sub_cancel_left,List.getElem?_append_left hk]
    exact hx
theorem qyl {x:Operand} {t e:TypeId} {lo hi:Option Operand} {sz:Nat} {agg:Bool} {xs ys:List AV} {tip:Option Nat} {i j:Nat} (hx:qj N s x = .sl sz xs tip) (hu:E.P.underlying t=some (.slice e)) (ht:tyOf E.P e=some (sz,agg))
  (hlo:match lo with|none=>i=0|some y=>∃ k,qj N s y = .v (.int k (i:Int))) (hhi:match hi with|none=>j=xs.length|some y=>∃ k,qj N s y = .v (.int k (j:Int))) (h1:i≤j) (h2:j≤xs.length) (hy:(xs.take j).drop i=ys)
  (h:AOps E rd N ops rest K (s.put d (.sl sz ys none))):AOps E rd N ops (⟨d,.slice t x lo hi none,T,p,af,none⟩::rest) K s:=by
 subst hy
 refine q7 rfl (qz nofun fun B0 w0 G a w _ hI=>?_)
 have he:=hI.eval_of hx
 generalize hv:a.eval x=v at he
 have hsl:∃ b len cap,v = .slice b len cap:=by cases he <;> exact⟨_,_,_,rfl⟩
 obtain⟨b,len,cap,rfl⟩:=hsl
 obtain⟨hl,hlc,hr⟩:=qqw he h1 h2
 refine⟨_,w,G,_,s.st,?_,.refl G,hI.agree,hr,h⟩
 have hrun:=qq0 hu ht b len cap (lo.map a.eval) (hi.map a.eval) i j w (by
  cases lo with
  |none=>exact hlo
  |some y=>obtain⟨k,hy⟩:=hlo;exact⟨k,hI.evalv hy⟩) (by
  cases hi with
  |none=>simp only at hhi;simp only [Option.map_none];omega
  |some y=>obtain⟨k,hy⟩:=hhi;exact⟨⟨k,hI.evalv hy⟩,by omega⟩) h1
 generalize a.eval = ρ at hv hrun
 simp only [execOp,hv]
 simp [Instr.sliceAt,run_underlying hu,hrun]
theorem je {x y:Operand} {t e:TypeId} {sz:Nat} {agg:Bool} {xs ys:List AV} {tip:Option Nat} {k:IntKind} {i:Nat} (hx:qj N s x = .sl sz xs tip) (hy:qj N s y = .v (.int k (i:Int))) (hu:E.P.underlying t=some (.slice e)) (ht:tyOf E.P e=some (sz,agg)) (h1:i≤xs.length) (hz:xs.drop i=ys)
  (h:AOps E rd N ops rest K (s.put d (.sl sz ys none))):AOps E rd N ops (⟨d,.slice t x (some y) none none,T,p,af,none⟩::rest) K s:=
 qyl (i:=i) (j:=xs.length) hx hu ht ⟨k,hy⟩ rfl h1 (Nat.le_refl _) (by rw [List.take_length];exact hz) h
end
end Go.Av
namespace Go.Av
open Go Go.RowKit
inductive Vec (sz:Nat) (T:TypeId) (o:Nat) (xs:List AV):AV→AObj→Prop
 |nil (h:xs=[]):Vec sz T o xs jw (.tip 0 sz T)
 |os (ver cap:Nat) (pad:List AV) (hl:(flat xs++pad).length=cap * sz) (hw:∀ x∈xs,x.cells.length=sz) (hle:xs.length≤cap) (hcm:cap≤maxLen):Vec sz T o xs (.os o ver 0 xs.length cap) (.cells ver T (flat xs++pad))
section
variable {B0 : Nat} {w0 : World} {G : Gh} {st : List AObj} {w : World}
theorem zl.setCells (h:zl B0 w0 G st w) {t k cap v':Nat} {T:TypeId} {cs:List AV} (ht:st[t]? = some .dead) (hraw:(G.ob t).raw=false) (hver:(G.ob t).ver<v')
  {c:Array Value} (hc:w.heap[k]? = some (.cells c T (0,0))) (hp:G.pub k=none) (hl:cs.length=c.size) (hr:∀ (i:Nat) (x:AV) (y:Value),cs[i]? = some x→c[i]? = some y→Rel G x y) (hk:B0≤k) (hs:∀ o x,st[o]? = some x→x.live→(G.ob o).blk≠k) :
  G.le (G.setOb t ⟨v',k,cap,false⟩)∧zl B0 w0 (G.setOb t ⟨v',k,cap,false⟩) (st.set t (.cells v' T cs)) w:=by
 have hle:=G.le_setOb t ⟨v',k,cap,false⟩ hver hraw
 have hob:∀ o,o≠t→(G.setOb t ⟨v',k,cap,false⟩).ob o=G.ob o:=fun o ho=>by simp [Gh.setOb,ho]
 have hobt:(G.setOb t ⟨v',k,cap,false⟩).ob t=⟨v',k,cap,false⟩:=by simp [Gh.setOb]
 refine⟨hle,h.below,h.hB,by simp [h.n,Gh.setOb],h.pub,fun o x hx=>?_,fun o o' x x' hne hx hx' hl1 hl2=>?_⟩
 ·rcases getElem?_set' _ _ _ _ _ hx with⟨rfl,rfl⟩ | ⟨ho,hx⟩
  ·exact⟨by rw [hobt],by rw [hobt],by rw [hobt];exact hk,by rw [hobt];exact hp,c,by rw [hobt];exact hc,hl,fun i x y h1 h2=>(hr i x y h1 h2).mono hle⟩
  ·exact (h.ob o x hx).mono hle (hob o ho) (fun _=>rfl) (fun _=>rfl)
 ·rcases getElem?_set' _ _ _ _ _ hx with⟨e1,e2⟩ | ⟨ho,hx⟩
  ·rcases getElem?_set' _ _ _ _ _ hx' with⟨e3,_⟩ | ⟨ho',hx'⟩
   ·exact absurd (e1.trans e3.symm) hne
   ·rw [e1,hobt,hob o' ho']
    exact (hs o' x' hx' hl2).symm
  ·rcases getElem?_set' _ _ _ _ _ hx' with⟨e3,_⟩ | ⟨ho',hx'⟩
   ·rw [e3,hobt,hob o ho]
    exact hs o x hx hl1
   ·rw [hob o ho,hob o' ho']
    exact h.sep o o' x x' hne hx hx' hl1 hl2
theorem qbp {G:Gh} {cs ds:List AV} {vs us:List Value} (hl:cs.length=vs.length) (h1:∀ (i:Nat) (x:AV) (y:Value),cs[i]? = some x→vs[i]? = some y→Rel G x y) (h2:∀ (i:Nat) (x:AV) (y:Value),ds[i]? = some x→us[i]? = some y→Rel G x y) :
  ∀ (i:Nat) (x:AV) (y:Value),(cs++ds)[i]? = some x→(vs++us)[i]? = some y→Rel G x y:=fun i x y hx hy=>by
 by_cases hi:i<cs.length
 ·rw [List.getElem?_append_left hi] at hx
  rw [List.getElem?_append_left (by omega)] at hy
  exact h1 i x y hx hy
 ·rw [List.getElem?_append_right (by omega)] at hx
  rw [List.getElem?_append_right (by omega),← hl] at hy
  exact h2 _ x y hx hy
theorem qkx {P:Program} (hA:zl B0 w0 G st w) {tt u ty T:TypeId} {du:TypeDesc} (htt:P.underlying tt=some (.slice T)) (hu:P.underlying u=some du) (hd:qhi du)
  {sz bytes:Nat} (hT:qan P T sz bytes) {o:Nat} {xs ys:List AV} {a:AV} {ob:AObj} {v x:Value} (hV:Vec sz T o xs a ob) (ho:st[o]? = some ob) (hv:Rel G a v)
  {news:List Value} (hx:Src P w x ys.length sz news) (hys:∀ y∈ys,y.cells.length=sz) (hrel:∀ (i:Nat) (a:AV) (b:Value),(flat ys)[i]? = some a→news[i]? = some b→Rel G a b)
  (h63:xs.length+ys.length≤maxLen) (hbytes:(xs.length+ys.length) * bytes≤140737488355328) :
  ∃ v' w' G' a' ob',(Builtin.append_ #[tt,u] ty #[v,x]).run P w = .ok v' w'∧G.le G'∧zl B0 w0 G' (st.set o ob') w'∧Rel G' a' v'∧Vec sz T o (xs++ys) a' ob':=by
 obtain⟨i,z,hi,hz,rfl,rfl,hzs⟩:=hT.ex
 have hon:=lt_of_getElem? ho
 have htn:o<G.n:=by rw [hA.n];exact hon
 have hraw:(G.ob o).raw=false:=by
  have:=hA.ob o _ ho
  cases hV with
  |nil h=>exact this.1
  |os=>exact this.1
 have hk:=hA.kill o
 have hkt:(st.set o .dead)[o]? = some .dead:=qcn ho
 have hother:∀ k x,(st.set o .dead)[k]? = some x→x.live→k≠o∧st[k]? = some x:=fun k x hx hl=>by
  rcases getElem?_set' _ _ _ _ _ hx with⟨_,e⟩ | ⟨h1,h2⟩
  ·subst e;exact hl.elim
  ·exact⟨h1,h2⟩
 have hself:st.set o ob=st:=by
  apply List.ext_getElem?
  intro k
  by_cases e:o=k
  ·subst e;rw [List.getElem?_set_self hon];exact ho.symm
  ·rw [List.getElem?_set_ne e]
 have hfy:(flat ys).length=ys.length * i.size:=jn hys
 have grow:∀ (base:Option Addr) (c:Nat) (olds:List Value),(Builtin.firstCells i.size xs.length (.slice base xs.length c)).run P w.drew = .ok olds.toArray w.drew→c<xs.length+ys.length→olds.length=xs.length * i.size→(∀ x∈xs,x.cells.length=i.size) →
   (∀ (j:Nat) (a:AV) (b:Value),(flat xs)[j]? = some a→olds[j]? = some b→Rel G a b)→Builtin.nextslicecap (xs.length+ys.length) c * i.bytes≤281474976710656 →
   ∃ v' w' G' a' ob',(Builtin.append_ #[tt,u] ty #[.slice base xs.length c,x]).run P w = .ok v' w'∧G.le G'∧zl B0 w0 G' (st.set o ob') w'∧Rel G' a' v'∧Vec i.size T o (xs++ys) a' ob':=by
  intro base c olds hold hc hol hwx hrx hfit
  have hfx:(flat xs).length=xs.length * i.size:=jn hwx
  have hrun:=qfu (ty:=ty) htt hu hd hi hz hx base xs.length c olds hold hc (by simp only [maxLen] at h63;omega) hfit
  have hge:=grownCap_ge w (xs.length+ys.length) c T
  have hle:=grownCap_le_maxLen w (xs.length+ys.length) c T h63
  generalize grownCap w (xs.length+ys.length) c T=cap at hrun hge hle
  generalize hzc:(Builtin.zeroCells z.cells (cap - (xs.length+ys.length)))=zc at hrun
  have hzl:zc.size=(cap - (xs.length+ys.length)) * i.size:=by rw [← hzc,size_zeroCells,hzs]
  have hdrew:Below w.heap.size w w.drew:=⟨rfl,rfl,rfl,Nat.le_refl _,fun _ _=>rfl⟩
  have hcl:(flat (xs++ys)++zc.toList.map AV.v).length=(olds.toArray++news.toArray++zc).size:=by
   rw [qah]
   simp [hfx,hfy,hol,hx.count]
   omega
  have hA1:=(hk.fresh hdrew).fresh (w':=w.drew.alloc (.cells (olds.toArray++news.toArray++zc) T)) ⟨rfl,rfl,rfl,by simp [World.alloc],fun b hb=>qa7 _ _ _ hb⟩
  have hnp:G.pub w.heap.size=none:=by
   cases hp:G.pub w.heap.size with
   |none=>rfl
   |some vs=>exact absurd (hA.pub_lt hp) (Nat.lt_irrefl _)
  obtain⟨hle2,hA2⟩:=hA1.setCells (t:=o) (k:=w.heap.size) (cap:=0) (v':=(G.ob o).ver+1) (T:=T) (cs:=flat (xs++ys)++zc.toList.map AV.v) hkt hraw (Nat.lt_succ_self _) (qar w.drew _) hnp hcl (by
   have h1:=qbp (G:=G) (cs:=flat xs) (ds:=flat ys) (vs:=olds) (us:=news) (by omega) hrx hrel
   have h2:=qbp (G:=G) (cs:=flat xs++flat ys) (ds:=zc.toList.map AV.v) (vs:=olds++news) (us:=zc.toList) (by simp [hfx,hfy,hol,hx.count]) h1 (fun j a b h1 h2=>by
    rw [List.getElem?_map,h2] at h1
    simp at h1
    subst h1
    exact .v _)
   rw [qah]
   intro j a b g1 g2
   exact h2 j a b g1 (by rw [← g2];simp [← Array.getElem?_toList])) hA.hB (fun k x hx hl=>by
   obtain⟨_,hx'⟩:=hother k x hx hl
   exact Nat.ne_of_lt ((hA.ob k x hx').lt hl))
  rw [List.set_set] at hA2
  refine⟨_,_,_,_,_,hrun,hle2,hA2,.os o ((G.ob o).ver+1) 0 (xs.length+ys.length) w.heap.size cap (by simpa [Gh.setOb] using htn) (by simp [Gh.setOb]) (fun _=>by simp [Gh.setOb]),?_⟩
  have:=Vec.os (o:=o) (T:=T) (xs:=xs++ys) ((G.ob o).ver+1) cap (zc.toList.map AV.v) (sz:=i.size) (by
   have h1:zc.toList.length=(cap - (xs.length+ys.length)) * i.size:=by rw [← hzl];simp
   rw [List.length_append,qah,List.length_append,hfx,hfy,List.length_map,h1,← Nat.add_mul,← Nat.add_mul]
   congr 1
   omega) (fun y hy=>by
   rcases List.mem_append.1 hy with h|h
   ·exact hwx y h
   ·exact hys y h) (by simpa using hge) hle
  rw [List.length_append] at this
  exact this
 cases hV with
 |nil h=>
  subst h
  cases hv with
  |v _=>
  by_cases hm0:ys.length=0
  ·have hy0:ys=[]:=List.eq_nil_of_length_eq_zero hm0
   subst hy0
   have hn0:news=[]:=List.eq_nil_of_length_eq_zero (by simpa using hx.count)
   subst hn0
   exact⟨_,_,G,_,_,qcr htt hu hd hi hx none 0 0 (Nat.le_refl _),.refl G,by rw [hself];exact hA,.v _,.nil (by simp)⟩
  ·exact grow none 0 [] (by simp [run_firstCells_none]) (by simp;omega) (by simp) (by simp) (by simp [flat]) (by
    simp only [List.length_nil,Nat.zero_add] at hbytes ⊢
    rw [nextslicecap_zero (by omega)]
    omega)
 |os ver cap pad hl hw hle hcm=>
  obtain⟨g0,g1,g2,g3,c,g4,g5,g6⟩:=hA.ob o _ ho
  have hfx:(flat xs).length=xs.length * i.size:=jn hw
  cases hv with
  |os _ _ _ _ b _ hn hv' hb=>
  have hb:=hb g1
  subst hb
  have hcs:c.size=cap * i.size:=by rw [← g5,hl]
  by_cases hm0:ys.length=0
  ·have hy0:ys=[]:=List.eq_nil_of_length_eq_zero hm0
   subst hy0
   have hn0:news=[]:=List.eq_nil_of_length_eq_zero (by simpa using hx.count)
   subst hn0
   exact⟨_,_,G,_,_,qcr htt hu hd hi hx _ xs.length cap hle,.refl G,by rw [hself];exact hA,.os _ _ _ _ _ _ hn hv' (fun _=>rfl),by rw [List.append_nil];exact .os ver cap pad hl hw hle hcm⟩
  ·by_cases hroom:xs.length+ys.length≤cap
   ·have hmul:(xs.length+ys.length) * i.size≤cap * i.size:=Nat.mul_le_mul_right _ hroom
    rw [Nat.add_mul] at hmul
    have hfit:xs.length * i.size+news.length≤c.size:=by rw [hx.count,hcs];omega
    have hrun:=qh5 (ty:=ty) htt hu hd hi hx (G.ob o).blk xs.length cap c g4 hroom hfit
    have hpl:pad.length=cap * i.size - xs.length * i.size:=by
     have:=hl
     rw [List.length_append,hfx] at this
     omega
    have hA2:=hA.setRow (cs':=flat (xs++ys)++pad.drop (ys.length * i.size)) (c':=(c.toList.take (xs.length * i.size)++news++c.toList.drop (xs.length * i.size+news.length)).toArray) ho (by
     rw [qah]
     simp [hfx,hfy,hx.count,hpl,hcs,Nat.min_eq_left hle]
     omega) (by
     have e1:∀ (j:Nat) (a:AV) (b:Value),(flat xs)[j]? = some a→(c.toList.take (xs.length * i.size))[j]? = some b→Rel G a b:=fun j a b h1 h2=>by
      have hj:=lt_of_getElem? h1
      rw [List.getElem?_take_of_lt (by omega)] at h2
      exact g6 j a b (by rw [List.getElem?_append_left hj];exact h1) (by simpa using h2)
     have e2:=qbp (G:=G) (cs:=flat xs) (ds:=flat ys) (vs:=c.toList.take (xs.length * i.size)) (us:=news) (by simp;omega) e1 hrel
     have e3:=qbp (G:=G) (cs:=flat xs++flat ys) (ds:=pad.drop (ys.length * i.size)) (vs:=c.toList.take (xs.length * i.size)++news) (us:=c.toList.drop (xs.length * i.size+news.length)) (by
      simp [hfx,hfy,hx.count]
      omega) e2 (fun j a b h1 h2=>by
      rw [List.getElem?_drop] at h1 h2
      refine g6 (xs.length * i.size+news.length+j) a b ?_ (by simpa using h2)
      rw [List.getElem?_append_right (by rw [hfx];omega),hfx,← h1,hx.count]
      congr 1
      omega)
     rw [qah]
     intro j a b h1 h2
     exact e3 j a b h1 (by simpa using h2))
    refine⟨_,_,G,_,_,hrun,.refl G,hA2,.os o ver 0 (xs.length+ys.length) _ cap hn hv' (fun _=>rfl),?_⟩
    have:=Vec.os (o:=o) (T:=T) (xs:=xs++ys) ver cap (pad.drop (ys.length * i.size)) (sz:=i.size) (by
     rw [List.length_append,qah,List.length_append,hfx,hfy,List.length_drop,hpl]
     omega) (fun y hy=>by
     rcases List.mem_append.1 hy with h|h
     ·exact hw y h
     ·exact hys y h) (by simpa using hroom) hcm
    rw [List.length_append] at this
    exact this
   ·refine grow (some ⟨(G.ob o).blk,0,none⟩) cap (c.toList.take (xs.length * i.size)) ?_ (by omega) (by
     have:xs.length * i.size≤cap * i.size:=Nat.mul_le_mul_right _ hle
     simp
     omega) hw (fun j a b h1 h2=>?_) (growslice_fits (by omega) hbytes)
    ·refine run_firstCells_some w.drew i.size xs.length ⟨(G.ob o).blk,0,none⟩ xs.length cap _ (by
      have:xs.length * i.size≤cap * i.size:=Nat.mul_le_mul_right _ hle
      simp
      omega) fun j y hy=>?_
     have e1':w.drew.heap[(G.ob o).blk]? = some (.cells c T (0,0)):=g4
     rw [Addr.add_lit]
     rw [List.getElem?_take] at hy
     split at hy
     ·simp only [Array.getElem?_toList] at hy
      simp [World.cell?,e1',hy]
     ·simp at hy
    ·have hj:=lt_of_getElem? h1
     rw [List.getElem?_take_of_lt (by omega)] at h2
     exact g6 j a b (by rw [List.getElem?_append_left hj];exact h1) (by simpa using h2)
end
section
variable {E : Env} {rd : Option Nat} {N : Nat} {ops : Array Oper} {K : AS → Prop} {s : AS} {rest : List Oper} {d : Option Tmp} {T : TypeId} {p : String} {af : Array Edge}
theorem qu9 {x y:Operand} {t u T':TypeId} {sz bytes o:Nat} {xs ys:List AV} {tip:Option Nat} {a:AV} {ob:AObj} (hx:qj N s x=a) (hy:qj N s y = .sl sz ys tip) (hV:Vec sz T' o xs a ob) (ho:s.st[o]? = some ob)
  (ht:E.P.underlying t=some (.slice T')) (hu:E.P.underlying u=some (.slice T')) (hT:qan E.P T' sz bytes) (hone:wj (flat ys)=true) (h63:xs.length+ys.length≤maxLen) (hb:(xs.length+ys.length) * bytes≤140737488355328)
  (h:∀ a' ob',Vec sz T' o (xs++ys) a' ob'→AOps E rd N ops rest K (AS.put ⟨s.t,s.st.set o ob',s.df⟩ d a')):AOps E rd N ops (⟨d,.call ⟨.builtin .append,#[x,y],#[t,u]⟩,T,p,af,none⟩::rest) K s:=by
 refine q7 rfl (qz nofun fun B0 w0 G a0 w _ hI=>?_)
 obtain⟨news,h1,h2,h3⟩:=qa2 (P:=E.P) hI.agree (hI.eval_of hy) (by simpa [wj] using hone)
 obtain⟨v',w',G',a',ob',e1,e2,e3,e4,e5⟩:=qkx (ty:=T) hI.agree ht hu (.inr ⟨_,rfl⟩) hT hV ho (hI.eval_of hx) h1 h2 h3 h63 hb
 refine⟨v',w',G',_,_,?_,e2,e3,e4,h a' ob' e5⟩
 generalize a0.eval = ρ at e1
 simp [execOp,resolve,invoke,builtin,e1]
theorem q51 {sz:Nat} {T:TypeId} {o:Nat} {xs:List AV} {a:AV} {ob:AObj} (h:Vec sz T o xs a ob):(xs=[]∧a=jw∧ob = .tip 0 sz T)∨∃ ver cap pad,a = .os o ver 0 xs.length cap∧ob = .cells ver T (flat xs++pad)∧(flat xs++pad).length=cap * sz∧(∀ x∈xs,x.cells.length=sz)∧xs.length≤cap∧cap≤maxLen:=by
 cases h with
 |nil h=>exact .inl ⟨h,rfl,rfl⟩
 |os ver cap pad h1 h2 h3 h4=>exact .inr ⟨ver,cap,pad,rfl,rfl,h1,h2,h3,h4⟩
theorem qn9 {sz:Nat}:∀ {xs:List AV} {i:Nat} {x:AV},(∀ x∈xs,x.cells.length=sz)→x.cells.length=sz→i<xs.length→∀ pad,jz (flat xs++pad) (0+i * sz) x.cells=flat (xs.set i x)++pad
 | [],_,_,_,_,h,_=>by simp at h
 |y::xs,0,x,hw,hx,_,pad=>by
  have hy:=hw y (by simp)
  simp only [List.set_cons_zero,qb8,jz,Nat.zero_mul,Nat.zero_add,List.take_zero,List.nil_append,hx]
  rw [List.append_assoc,List.drop_append_of_le_length (by omega),← hy,List.drop_length]
  simp
 |y::xs,i+1,x,hw,hx,h,pad=>by
  have hy:=hw y (by simp)
  have ih:=qn9 (xs:=xs) (i:=i) (x:=x) (fun z hz=>hw z (by simp [hz])) hx (by simpa using h) pad
  simp only [List.set_cons_succ,qb8,jz,Nat.zero_add] at ih ⊢
  have e:(i+1) * sz=y.cells.length+i * sz:=by rw [Nat.add_mul,hy];omega
  simp only [List.append_assoc] at ih ⊢
  rw [e,List.take_length_add_append,show y.cells.length+i * sz+x.cells.length=y.cells.length+(i * sz+x.cells.length) by omega,List.drop_length_add_append]
  simp only [List.append_assoc]
  rw [ih]
theorem zbf {sz:Nat} {T:TypeId} {o ver cap:Nat} {xs pad:List AV} (hl:(flat xs++pad).length=cap * sz) (hw:∀ x∈xs,x.cells.length=sz) (hle:xs.length≤cap) (hcm:cap≤maxLen) {i:Nat} {x:AV} (hx:x.cells.length=sz) (hi:i<xs.length) :
  Vec sz T o (xs.set i x) (.os o ver 0 xs.length cap) (.cells ver T (jz (flat xs++pad) (0+i * sz) x.cells)):=by
 rw [qn9 hw hx hi]
 have hw':∀ y∈xs.set i x,y.cells.length=sz:=fun y hy=>by
  rcases List.mem_or_eq_of_mem_set hy with h|rfl
  ·exact hw y h
  ·exact hx
 have:=Vec.os (o:=o) (T:=T) (xs:=xs.set i x) ver cap pad (sz:=sz) (by
  rw [List.length_append] at hl ⊢
  rw [jn hw',List.length_set,← jn hw]
  exact hl) hw' (by simpa using hle) hcm
 rw [List.length_set] at this
 exact this
theorem q0l {sz:Nat} {xs pad:List AV} (hw:∀ x∈xs,x.cells.length=sz) {i:Nat} {x:AV} (hi:xs[i]? = some x):((flat xs++pad).drop (i * sz)).take sz=x.cells:=by
 have hlt:=lt_of_getElem? hi
 have hx:=hw x (List.mem_of_getElem? hi)
 apply List.ext_getElem?
 intro j
 rw [List.getElem?_take]
 by_cases hj:j<sz
 ·rw [if_pos hj,List.getElem?_drop,← qhq hw hi j hj]
  have hle:(i+1) * sz≤xs.length * sz:=Nat.mul_le_mul_right _ hlt
  rw [Nat.succ_mul] at hle
  rw [List.getElem?_append_left (by rw [jn hw];omega)]
 ·rw [if_neg hj,List.getElem?_eq_none (by omega)]
end
structure Chg (N:Nat) (s s':AS):Prop where
 run:∀ (B0:Nat) (w0:World) (G:Gh) (a:Act) (w:World),Inv B0 w0 N G s a w→∃ G',G.le G'∧Inv B0 w0 N G' s' a w
theorem Chg.trans {N:Nat} {s s' s'':AS} (h:Chg N s s') (k:Chg N s' s''):Chg N s s'':=⟨fun B0 w0 G a w hI=>let ⟨G1,h1,h2⟩:=h.run B0 w0 G a w hI;let ⟨G2,k1,k2⟩:=k.run B0 w0 G1 a w h2;⟨G2,h1.trans k1,k2⟩⟩
section
variable {E : Env} {rd : Option Nat} {N : Nat} {ops : Array Oper} {K : AS → Prop} {s s' : AS}
theorem q6h {fn:Func} {R:AV→List AObj→Prop} (hc:Chg fn.ntmps s s') (h:ARet E fn R s'):ARet E fn R s:=
 ⟨fun B0 w0 G a w hL hI R2 hR2=>let ⟨G1,h1,h2⟩:=hc.run B0 w0 G a w hI;h.run B0 w0 G1 a w hL h2 R2 fun v G' r st' w' hG k1 k2 k3=>hR2 v G' r st' w' (h1.trans hG) k1 k2 k3⟩
theorem q6r (i:Nat) {x r:AV} (hi:s.t i=x) (hw:∀ G v,Rel G x v→Rel G r v):Chg N s ⟨Av.put s.t i r,s.st,s.df⟩:=
 ⟨fun B0 w0 G a w hI=>⟨G,.refl G,hI.agree,hI.defers,hI.size,fun j y hy=>by
  have hj:=hI.tmps j y hy
  by_cases e:j=i
  ·subst e;simp only [y8];rw [hi] at hj;exact hw G y hj
  ·simp only;rw [qbj _ _ _ _ e];exact hj⟩⟩
theorem q6q (o:Nat):Chg N s ⟨s.t,s.st.set o .dead,s.df⟩:=⟨fun B0 w0 G a w hI=>⟨G,.refl G,hI.agree.kill o,hI.defers,hI.size,hI.tmps⟩⟩
theorem q07 (i:Nat) {sz o:Nat} {T':TypeId} {xs:List AV} {v:AV} {ob:AObj} (hi:s.t i=v) (hV:Vec sz T' o xs v ob) (ho:s.st[o]? = some ob):Chg N s ⟨Av.put s.t i (.sl sz xs none),s.st.set o .dead,s.df⟩:=by
 cases hV with
 |nil hx=>
  subst hx
  exact (q6r i hi (fun _ _ h=>qbq h)).trans (q6q o)
 |os ver cap pad hl hw hle hcm=>
  have hm:xs.length * sz≤cap * sz:=Nat.mul_le_mul_right _ hle
  refine⟨fun _ _ _ _ _ hI=>hI.osPub hi ho rfl hle hw (by omega) ?_⟩
  rw [List.drop_zero,List.take_append_of_le_length (by rw [jn hw];exact Nat.le_refl _),List.take_of_length_le (by rw [jn hw];exact Nat.le_refl _)]
theorem qyr (i:Nat) {sz k:Nat} {T':TypeId} {xs:List AV} {v:AV} {ob:AObj} {st loc ext new:List AObj} (hs:s.st=((st++loc)++ext)++new) (hi:s.t i=v) (hV:Vec sz T' (st.length+k) xs v ob) (ho:loc[k]? = some ob):Chg N s ⟨Av.put s.t i (.sl sz xs none),((st++loc.set k .dead)++ext)++new,s.df⟩:=by
 have:=q07 (N:=N) i hi hV (by rw [hs];exact qcm ho)
 rw [hs,qfc _ (lt_of_getElem? ho)] at this
 exact this
theorem qtx {rest:List Oper} {d:Option Tmp} {T:TypeId} {p:String} {af:Array Edge} {x y:Operand} {t u T':TypeId} {sz bytes k:Nat} {xs ys:List AV} {tip:Option Nat} {a:AV} {ob:AObj} {st loc ext new:List AObj} (hs:s.st=((st++loc)++ext)++new) (hx:qj N s x=a) (hy:qj N s y = .sl sz ys tip) (hV:Vec sz T' (st.length+k) xs a ob) (ho:loc[k]? = some ob)
  (ht:E.P.underlying t=some (.slice T')) (hu:E.P.underlying u=some (.slice T')) (hT:qan E.P T' sz bytes) (hone:wj (flat ys)=true) (h63:xs.length+ys.length≤maxLen) (hb:(xs.length+ys.length) * bytes≤140737488355328)
  (h:∀ a' ob',Vec sz T' (st.length+k) (xs++ys) a' ob'→AOps E rd N ops rest K (AS.put ⟨s.t,((st++loc.set k ob')++ext)++new,s.df⟩ d a')):AOps E rd N ops (⟨d,.call ⟨.builtin .append,#[x,y],#[t,u]⟩,T,p,af,none⟩::rest) K s:=
 qu9 hx hy hV (by rw [hs];exact qcm ho) ht hu hT hone h63 hb fun a' ob' hV'=>by rw [hs,qfc _ (lt_of_getElem? ho)];exact h a' ob' hV'
end
end Go.Av
