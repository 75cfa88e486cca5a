/- Contracts and plain facts that the closing text leans on (part 9). No condition of their own beyond those that each states. -/
import Derived.Test.YtejoahlpbckbeaaGreatDoorK8
import Derived.Lib.Builder
import Derived.Laws.Pointers
import Derived.Laws.Externs
import Derived.Lib.Index
import Derived.Lib.SlTrimSet
import Derived.Shelf.Strings.Prefix
import Derived.Shelf.Strings.Cut
import Derived.Deep.Slices
import Derived.Deep.Fields
import Derived.WideKeyArgs
import Derived.Laws.StructEq
set_option maxRecDepth 100000
set_option linter.unusedVariables false
set_option linter.unusedSimpArgs false
namespace Go.Av
open Go Go.RowKit
theorem u8i (c:UInt8) (n:Nat) (h:n<256):((c.toNat:Nat):Int)=(OfNat.ofNat n:Int)↔c=(OfNat.ofNat n:UInt8):=by
 constructor
 ·intro h'
  have e:c.toNat=n:=by
   have:(OfNat.ofNat n:Int)=(n:Int):=rfl
   omega
  subst e
  exact (UInt8.ofNat_toNat (x:=c)).symm
 ·intro h'
  subst h'
  show ((n % 256:Nat):Int)=(n:Int)
  rw [Nat.mod_eq_of_lt h]
theorem u8_9 (c:UInt8):((c.toNat:Nat):Int)=9↔c=9:=u8i c 9 (by decide)
theorem u8_10 (c:UInt8):((c.toNat:Nat):Int)=10↔c=10:=u8i c 10 (by decide)
theorem u8_32 (c:UInt8):((c.toNat:Nat):Int)=32↔c=32:=u8i c 32 (by decide)
theorem u8_35 (c:UInt8):((c.toNat:Nat):Int)=35↔c=35:=u8i c 35 (by decide)
theorem u8_58 (c:UInt8):((c.toNat:Nat):Int)=58↔c=58:=u8i c 58 (by decide)
theorem notin_next {l:List UInt8} {k:Nat} {c:UInt8} (hk:k<l.length) (h:c∉l.take k) (hc:¬ l.getD k 0=c):c∉l.take (k+1):=by
 rw [qga hk,List.mem_append]
 rintro (h'|h')
 ·exact h h'
 ·exact hc (by simp at h';exact h'.symm)
theorem all_next {l:List UInt8} {k:Nat} {p:UInt8→Prop} (hk:k<l.length):(∀ c∈l.take (k+1),p c)↔(∀ c∈l.take k,p c)∧p (l.getD k 0):=by
 rw [qga hk]
 constructor
 ·exact fun h=>⟨fun c hc=>h c (List.mem_append_left _ hc),h _ (by simp)⟩
 ·rintro⟨h,h'⟩ c hc
  rcases List.mem_append.1 hc with hc|hc
  ·exact h c hc
  ·simp at hc;subst hc;simpa using h'
theorem getD_of {l:List UInt8} {k:Nat} (h:k<l.length):l.getD k 0∈l:=by
 rw [List.getD,List.getElem?_eq_getElem h]
 exact List.getElem_mem h
section
variable {E : Env} {rd : Option Nat} {N : Nat} {ops : Array Oper} {K : AS → Prop} {s : AS} {rest : List Oper} {d : Option Tmp} {T : TypeId} {p : String} {af : Array Edge}
theorem awp_newTip {i sz:Nat} {T':TypeId} {c:Code} {Q:Exit→AS→Prop} (hi:s.t i=zv)
  (h:AWp E rd N c Q ⟨Av.put s.t i (.sl sz [] (some s.st.length)),s.st++[AObj.tip 0 sz T'],s.df⟩):AWp E rd N c Q s:=
 ⟨fun B0 w0 G a w hL hI=>wpIn_mono (h.run B0 w0 _ a w hL (hI.newTip hi)) fun _ _ _ ⟨G',s',hG,h1,h2⟩=>⟨G',s',(G.le_new 0 0 0 false).trans hG,h1,h2⟩⟩
end
end Go.Av
namespace Go.Av
open Go Go.RowKit
section
variable {E : Env} {rd : Option Nat} {N : Nat} {ops : Array Oper} {K : AS → Prop} {s : AS} {rest : List Oper} {d : Option Tmp} {T : TypeId} {p : String} {af : Array Edge}
theorem aops_assertNil {x:Operand} {xt t:TypeId} {D:TypeDesc} {z:Value} (hx:qf N s x = .v .nilIface) (hu:E.P.underlying t=some D) (hn:qsg D=true) (hz:q0u E.P t=some z)
  (h:AOps E rd N ops rest K (s.put d (.tu [.v z,Bv false]))):AOps E rd N ops (⟨d,.typeAssert x xt t true,T,p,af,none⟩::rest) K s:=by
 refine qs rfl (qq nofun fun B0 w0 G a w _ hI=>?_)
 have hv:=hI.evalv hx
 have hz':=q33 hz w
 refine⟨.tuple #[z,.bool false],w,G,_,s.st,?_,.refl G,hI.agree,qkl (.v _) (.v _),h⟩
 generalize a.eval = ρ at hv
 cases D <;> first|(simp [qsg] at hn;done)|simp [execOp,Instr.typeAssert,hv,run_underlying hu,hz']
end
end Go.Av
namespace Go.Pl
open Go
theorem keyOk_iff (l:qc):qa5 l↔1≤l.length∧l.length≤32∧¬ wm (l.getD 0 0)∧l.getD 0 0≠35∧58∉l∧10∉l:=by
 cases l with
 |nil=>simp [qa5]
 |cons c l=>simp [qa5,qdl]
theorem keyPart_eq {l:qc} {k:Nat} (h:58∉l.take k) (hk:k<l.length) (e:l.getD k 0=58):ji l=l.take k∧58∈l:=by
 induction l generalizing k with
 |nil=>simp at hk
 |cons b l ih=>
  cases k with
  |zero=>simp at e;subst e;simp [ji]
  |succ k=>
   simp only [List.take_succ_cons,List.mem_cons,not_or] at h
   obtain⟨h1,h2⟩:=ih h.2 (by simpa using hk) (by simpa using e)
   have:ji (b::l)=b::ji l:=by simp [ji,Ne.symm h.1]
   exact⟨by rw [this,h1];rfl,by simp [h2]⟩
def cutOf (l:qc):qc×qc×Bool:=if 10∉l∧58∈l∧qa5 (ji l) then (ji l,w7 l,true) else ([],[],false)
end Go.Pl
namespace Go.Proofs.YtejoahlpbckbeaaGreatDoor
open Go Go.Av Go.RowKit Go.Proofs Go.Pl
theorem refBlank_c (c:UInt8) (st:List AObj):qn E 191 [Uv c] st fun r st'=>r=Bv (decide (wm c))∧st'=st:=by
 refine zz (q8 _) (qx Tryz.func191 rfl (Nat.le_of_ble_eq_true rfl) ?_)
 repeat' (first|apply qt|apply qj|apply qi|apply ql|apply qk|(apply q7;(iterate 3 exact rfl))|(apply jr;(iterate 4 exact rfl))|(apply qlu;exact cAo)|(apply qjb;exact cAo)|(apply qhn <;> intro h)|(apply zf;exact rfl;apply qkj;exact cAo)|(apply zf;exact rfl;apply qsj;exact cAo)|apply zi)
 all_goals refine qv rfl (zw rfl) ⟨congrArg Bv (?_:_=_),_,rfl⟩
 all_goals simp_all [wm,u8_32,u8_9]
theorem refKey_c (l:List UInt8) (st:List AObj) (hl:l.length<4294967281):qn E 213 [Sv l] st fun r st'=>r=Bv (decide (qa5 l))∧st'=st:=by
 refine zz (q8 _) (qx Tryz.func213 rfl (Nat.le_of_ble_eq_true rfl) ?_)
 repeat' (first|apply qt|apply za|apply qj|apply qi|apply ql|apply qk|(apply q7;(iterate 3 exact rfl))|(apply jr;(iterate 4 exact rfl))|(apply qlu;exact cAo)|(apply qjb;exact cAo)|(apply qqw;exact cRa)|(apply qhn <;> intro h)|(apply zf;exact rfl;apply qkj;exact cAo)|(apply zf;exact rfl;apply qsj;exact cAo)|(apply zf;exact rfl;apply pk_t;exact cRa)|(apply qh;exact rfl;apply cd_t;exact cRa)|(apply qh;exact rfl;apply cd_d <;> intro h)|(apply yx;(iterate 3 exact rfl))|(apply qlj;(iterate 3 exact rfl);exact cAs)|apply q9|apply zi|(apply q5;exact Tryz.call191;exact refBlank_c _ _))
 rotate_left 4
 ·refine vw (fun (k:Nat) s=>k≤l.length∧58∉l.take k∧10∉l.take k∧StA [(0,Sv l),(3,Iv k)] (st++[]) [] s) (fun k=>l.length - k) 0 ⟨by omega,by simp,by simp,kz ⟨rfl,rfl,trivial⟩⟩ ?_
  rintro k _ ⟨hk,h1,h2,t,rfl⟩
  repeat' (first|apply qt|apply za|apply qj|apply qi|apply ql|apply qk|(apply q7;(iterate 3 exact rfl))|(apply jr;(iterate 4 exact rfl))|(apply qlu;exact cAo)|(apply qjb;exact cAo)|(apply qhn <;> intro h)|(apply zf;exact rfl;apply qkj;exact cAo)|(apply zf;exact rfl;apply qsj;exact cAo)|(apply qh;exact rfl;apply cd_t;exact cRa)|(apply qh;exact rfl;apply cd_d <;> intro h)|(apply yx;(iterate 3 exact rfl))|(apply jj;exact rfl;exact rfl;exact zy (by omega) (by omega))|(apply qlj;(iterate 3 exact rfl);exact cAs)|apply q9|apply vt|apply zi)
  rotate_left 2
  ·exact⟨k+1,⟨by omega,notin_next (by omega) h1 (by simp_all [u8_58]),notin_next (by omega) h2 (by simp_all [u8_10]),kz ⟨rfl,rfl,trivial⟩⟩,by omega⟩
  all_goals refine qv rfl (zw rfl) ⟨congrArg Bv (?_:_=_),_,rfl⟩
  ·have e:k=l.length:=by omega
   subst e
   simp_all [keyOk_iff,u8_35]
   omega
  ·have:=getD_of (l:=l) (k:=k) (by omega)
   simp_all [keyOk_iff,u8_58]
  ·have:=getD_of (l:=l) (k:=k) (by omega)
   simp_all [keyOk_iff,u8_10]
 all_goals refine qv rfl (zw rfl) ⟨congrArg Bv (?_:_=_),_,rfl⟩
 all_goals simp_all [keyOk_iff,u8_35]
 all_goals omega
theorem refCut_c (l:List UInt8) (st:List AObj) (hl:l.length<4294967281):qn E 170 [Sv l] st fun r st'=>r = .tu [Sv (cutOf l).1,Sv (cutOf l).2.1,Bv (cutOf l).2.2]∧st'=st:=by
 refine zz (qrf _ _ _) (qx Tryz.func170 rfl (Nat.le_of_ble_eq_true rfl) ?_)
 repeat' (first|apply qt|apply za|apply qj|apply qi|apply qk)
 refine vw (fun (k:Nat) s=>k≤l.length∧10∉l.take k∧StA [(0,Sv l),(2,Sv []),(3,Sv []),(4,Bv false),(5,Iv k)] (st++[]) [] s) (fun k=>l.length - k) 0 ⟨by omega,by simp,kz ⟨rfl,rfl,rfl,rfl,rfl,trivial⟩⟩ ?_
 rintro k _ ⟨hk,h1,t,rfl⟩
 repeat' (first|apply qt|apply za|apply qj|apply qi|apply ql|apply qk|(apply q7;(iterate 3 exact rfl))|(apply qh;exact rfl;apply cd_d <;> intro h)|(apply yx;(iterate 3 exact rfl))|(apply jj;exact rfl;exact rfl;exact zy (by omega) (by omega))|(apply qlj;(iterate 3 exact rfl);exact cAs)|apply q9|apply vt|apply zi)
 rotate_left 1
 ·exact⟨k+1,⟨by omega,notin_next (by omega) h1 (by simp_all [u8_10]),kz ⟨rfl,rfl,rfl,rfl,rfl,trivial⟩⟩,by omega⟩
 ·have e:k=l.length:=by omega
  subst e
  rw [List.take_length] at h1
  refine vw (fun (k:Nat) s=>k≤l.length∧58∉l.take k∧StA [(0,Sv l),(2,Sv []),(3,Sv []),(4,Bv false),(6,Iv k)] (st++[]) [] s) (fun k=>l.length - k) 0 ⟨by omega,by simp,kz ⟨rfl,rfl,rfl,rfl,rfl,trivial⟩⟩ ?_
  rintro k _ ⟨hk,h2,t,rfl⟩
  repeat' (first|apply qt|apply za|apply qj|apply qi|apply ql|apply qk|(apply q7;(iterate 3 exact rfl))|(apply wx;exact rfl)|(apply qh;exact rfl;apply cd_n <;> intro h)|(apply qh;exact rfl;apply cd_d <;> intro h)|(apply yx;(iterate 3 exact rfl))|(apply jj;exact rfl;exact rfl;exact zy (by omega) (by omega))|(apply qlj;(iterate 3 exact rfl);exact cAs)|(apply qp4;(iterate 3 exact rfl);exact cAs)|(apply q4d;exact rfl;kernel_rfl)|apply qs6|apply qoy|apply q03|(apply q9y;exact rfl;exact rfl;exact zy (by omega) (by omega))|(apply q68;(iterate 3 exact rfl);exact cAs)|(apply q64;(iterate 3 exact rfl);exact cAs)|apply q9|apply vt|apply zi|(apply q5;exact Tryz.call213;exact refKey_c _ _ (by simp;omega)))
  rotate_left 2
  ·exact⟨k+1,⟨by omega,notin_next (by omega) h2 (by simp_all [u8_58]),kz ⟨rfl,rfl,rfl,rfl,rfl,trivial⟩⟩,by omega⟩
  all_goals refine qv rfl (qm4 rfl) ⟨zbd (?_:_=_),_,rfl⟩
  ·have e:k=l.length:=by omega
   subst e
   rw [List.take_length] at h2
   simp [cutOf,h2]
  ·obtain⟨e1,e2⟩:=keyPart_eq h2 (by omega) (by simp_all [u8_58])
   simp_all [cutOf]
  ·obtain⟨e1,e2⟩:=keyPart_eq h2 (by omega) (by simp_all [u8_58])
   have hk':k<l.length:=by omega
   have hk2:(l.take k).length=k:=by simp;omega
   have hkey:qa5 (l.take k):=by simp_all
   simp only [cutOf,w7,e1,e2,h1,hkey,hk2]
   simp
 ·refine qv rfl (qm4 rfl) ⟨zbd (?_:_=_),_,rfl⟩
  have:=getD_of (l:=l) (k:=k) (by omega)
  simp_all [cutOf,u8_10]
theorem refKind_c (l:List UInt8) (st:List AObj) (hl:l.length<4294967281):qn E 136 [Sv l] st fun r st'=>r=Iv (qm l)∧st'=st:=by
 refine zz (q8 _) (qx Tryz.func136 rfl (Nat.le_of_ble_eq_true rfl) ?_)
 repeat' (first|apply qt|apply za|apply qj|apply qi|apply qk)
 refine vw (fun (k:Nat) s=>k≤l.length∧10∉l.take k∧∃ b,(b=true↔∀ c∈l.take k,wm c)∧StA [(0,Sv l),(3,Bv b),(4,Iv k)] (st++[]) [] s) (fun k=>l.length - k) 0 ⟨by omega,by simp,true,by simp,kz ⟨rfl,rfl,rfl,trivial⟩⟩ ?_
 rintro k _ ⟨hk,h1,b,hb,t,rfl⟩
 repeat' (first|apply qt|apply za|apply qj|apply qi|apply ql|apply qk|(apply q7;(iterate 3 exact rfl))|(apply jr;(iterate 4 exact rfl))|(apply qhm;exact cRa)|(apply qf0;exact cRa)|(apply qt1 <;> intro h)|(apply zf;exact rfl;apply pk_t;exact cRa)|(apply zf;exact rfl;apply pk_f;exact cRa)|(apply qh;exact rfl;apply cd_d <;> intro h)|(apply qh;exact rfl;apply cd_s <;> intro h)|(apply yx;(iterate 3 exact rfl))|(apply jj;exact rfl;exact rfl;exact zy (by omega) (by omega))|(apply qlj;(iterate 3 exact rfl);exact cAs)|apply q9|apply vt|apply zi|(apply q5;exact Tryz.call191;exact refBlank_c _ _))
 ·refine qv rfl (zw rfl) ⟨congrArg Iv (?_:_=_),_,rfl⟩
  have:=getD_of (l:=l) (k:=k) (by omega)
  simp_all [qm,u8_10]
 ·exact⟨k+1,⟨by omega,notin_next (by omega) h1 (by simp_all [u8_10]),_,by rw [all_next (by omega),decide_eq_true_iff,← hb];simp [*],kz ⟨rfl,rfl,rfl,trivial⟩⟩,by omega⟩
 ·exact⟨k+1,⟨by omega,notin_next (by omega) h1 (by simp_all [u8_10]),_,by rw [all_next (by omega),← hb];simp [*],kz ⟨rfl,rfl,rfl,trivial⟩⟩,by omega⟩
 ·refine qv rfl (zw rfl) ⟨congrArg Iv (?_:_=_),_,rfl⟩
  have e:k=l.length:=by omega
  subst e
  simp_all [qm]
 ·have e:k=l.length:=by omega
  subst e
  rw [List.take_length] at h1 hb
  obtain⟨h0,hk⟩:=qwq h1 (fun h=>by simp_all)
  repeat' (first|apply qt|apply qj|apply qi|apply ql|apply qk|(apply vl;exact rfl;exact rfl)|(apply q7;(iterate 3 exact rfl))|(apply qh;exact rfl;apply cd_d <;> intro h)|(apply qh;exact rfl;apply cd_s <;> intro h)|(apply qlj;(iterate 3 exact rfl);exact cAs)|apply q9|apply zi|(apply q5;exact Tryz.call191;exact refBlank_c _ _)|(apply q5;exact Tryz.call170;exact refCut_c _ _ hl))
  all_goals refine qv rfl (zw rfl) ⟨congrArg Iv (?_:_=_),_,rfl⟩
  ·simp_all [u8_35]
  ·simp_all [u8_35]
  ·have hc:58∈l∧qa5 (ji l):=by
    apply Classical.byContradiction
    intro hn
    have:cutOf l=([],[],false):=by unfold cutOf;rw [if_neg (fun h=>hn h.2)]
    simp_all
   simp_all [u8_35]
  ·have hc:¬ (58∈l∧qa5 (ji l)):=fun hn=>by
    have:cutOf l=(ji l,w7 l,true):=by unfold cutOf;rw [if_pos ⟨h1,hn⟩]
    simp_all
   simp_all [u8_35]
end Go.Proofs.YtejoahlpbckbeaaGreatDoor
namespace Go.Av
open Go Go.RowKit
section
variable {E : Env} {rd : Option Nat} {N : Nat} {ops : Array Oper} {K : AS → Prop} {s : AS} {rest : List Oper} {d : Option Tmp} {T : TypeId} {p : String} {af : Array Edge}
theorem ares_slice {fn:Func} {t:Tmp} {sz:Nat} {xs:List AV} {tip:Option Nat} (hr:fn.results = #[.tmp t]) (hx:qf fn.ntmps s (.tmp t) = .sl sz xs tip):ARes E fn s (.sl sz xs none):=
 yy (zw hr) fun G v h=>by rw [hx] at h;exact qju h
end
end Go.Av
namespace Go.Proofs.YtejoahlpbckbeaaGreatDoor
open Go Go.Av Go.RowKit Go.Proofs Go.Pl
theorem flds_get {xs:List FldV} {k:Nat} (hk:k<xs.length):(xs.map fldA)[k]? = some (fldA (xs.getD k ([],[]))):=by
 simp [List.getD,hk]
end Go.Proofs.YtejoahlpbckbeaaGreatDoor
namespace Go.Av
open Go Go.RowKit Go.WideShapes Go.ChangeShapes Go.Deep
def One (S:AV→Prop):Prop:=∀ a,S a→a.cells=[a]
end Go.Av
namespace Go.Av
open Go Go.RowKit
theorem aops_store_midv {E:Env} {rd:Option Nat} {N:Nat} {ops:Array Oper} {K:AS→Prop} {s:AS} {rest:List Oper} {d:Option Tmp} {T:TypeId} {p:String} {af:Array Edge} {x y:Operand} {t:TypeId} {sz:Nat} {agg:Bool} {st loc ext new:List AObj} {k ver off:Nat} {T':TypeId} {cs xs:List AV} {r:AV} (hs:s.st=((st++loc)++ext)++new) (hx:qf N s x = .bx (st.length+k) ver off) (hy:qf N s y=r) (ho:loc[k]? = some (.cells ver T' cs)) (ht:tyOf E.P t=some (sz,agg))
  (hok:r.okc=true) (hc:r.cells=xs) (hsz:xs.length=sz) (h1:jq xs=true) (hfit:off+sz≤cs.length)
  (h:AOps E rd N ops rest K (AS.put ⟨s.t,((st++loc.set k (.cells ver T' (zh cs off xs)))++ext)++new,s.df⟩ d (.v undef))):AOps E rd N ops (⟨d,.store t x y,T,p,af,none⟩::rest) K s:=by
 have hk:=lt_of_getElem? ho
 exact qea hx hy (by rw [hs];exact qb7 ho) ht hok hc hsz (by simpa [jq] using h1) hfit (by rw [hs,qg9 _ hk];exact h)
section
variable {E : Env} {rd : Option Nat} {N : Nat} {ops : Array Oper} {K : AS → Prop} {s : AS} {rest : List Oper} {d : Option Tmp} {T : TypeId} {p : String} {af : Array Edge}
theorem aops_appendV {x y:Operand} {t u T':TypeId} {sz bytes o:Nat} {xs ys:List AV} {tip:Option Nat} {a:AV} {ob:AObj} (hx:qf N s x=a) (hy:qf N s y = .sl sz ys tip) (hV:Vec sz T' o xs a ob) (ho:s.st[o]? = some ob)
  (ht:E.P.underlying t=some (.slice T')) (hu:E.P.underlying u=some (.slice T')) (hT:wh E.P T' sz bytes) (hone:jq (flat ys)=true) (h63:xs.length+ys.length≤maxLen) (hb:(xs.length+ys.length) * bytes≤140737488355328)
  (h:∀ a' ob',Vec sz T' o (xs++ys) a' ob'→AOps E rd N ops rest K (AS.put ⟨s.t,s.st.set o ob',s.df⟩ d a')):AOps E rd N ops (⟨d,.call ⟨.builtin .append,#[x,y],#[t,u]⟩,T,p,af,none⟩::rest) K s:=by
 refine qs rfl (qq nofun fun B0 w0 G a0 w _ hI=>?_)
 obtain⟨news,h1,h2,h3⟩:=xd (P:=E.P) hI.agree (hI.eval_of hy) (by simpa [jq] using hone)
 obtain⟨v',w',G',a',ob',e1,e2,e3,e4,e5⟩:=qil (ty:=T) hI.agree ht hu (.inr ⟨_,rfl⟩) hT hV ho (hI.eval_of hx) h1 h2 h3 h63 hb
 refine⟨v',w',G',_,_,?_,e2,e3,e4,h a' ob' e5⟩
 generalize a0.eval = ρ at e1
 simp [execOp,resolve,invoke,builtin,e1]
theorem vec_set {sz:Nat} {T:TypeId} {o ver cap:Nat} {xs pad:List AV} (hl:(flat xs++pad).length=cap * sz) (hw:∀ x∈xs,x.cells.length=sz) (hle:xs.length≤cap) (hcm:cap≤maxLen) {i:Nat} {x:AV} (hx:x.cells.length=sz) (hi:i<xs.length) :
  Vec sz T o (xs.set i x) (.os o ver 0 xs.length cap) (.cells ver T (zh (flat xs++pad) (0+i * sz) x.cells)):=by
 rw [qtv hw hx hi]
 have hw':∀ y∈xs.set i x,y.cells.length=sz:=fun y hy=>by
  rcases List.mem_or_eq_of_mem_set hy with h|rfl
  ·exact hw y h
  ·exact hx
 have:=Vec.os (o:=o) (T:=T) (xs:=xs.set i x) ver cap pad (sz:=sz) (by
  rw [List.length_append] at hl ⊢
  rw [zo hw',List.length_set,← zo hw]
  exact hl) hw' (by simpa using hle) hcm
 rw [List.length_set] at this
 exact this
end
section
variable {E : Env} {rd : Option Nat} {N : Nat} {ops : Array Oper} {K : AS → Prop} {s s' : AS}
theorem aret_chg {fn:Func} {R:AV→List AObj→Prop} (hc:Chg fn.ntmps s s') (h:ARet E fn R s'):ARet E fn R s:=
 ⟨fun B0 w0 G a w hL hI R2 hR2=>let ⟨G1,h1,h2⟩:=hc.run B0 w0 G a w hI;h.run B0 w0 G1 a w hL h2 R2 fun v G' r st' w' hG k1 k2 k3=>hR2 v G' r st' w' (h1.trans hG) k1 k2 k3⟩
theorem chg_weak (i:Nat) {x r:AV} (hi:s.t i=x) (hw:∀ G v,Rel G x v→Rel G r v):Chg N s ⟨Av.put s.t i r,s.st,s.df⟩:=
 ⟨fun B0 w0 G a w hI=>⟨G,.refl G,hI.agree,hI.defers,hI.size,fun j y hy=>by
  have hj:=hI.tmps j y hy
  by_cases e:j=i
  ·subst e;simp only [wg];rw [hi] at hj;exact hw G y hj
  ·simp only;rw [xx _ _ _ _ e];exact hj⟩⟩
theorem chg_kill (o:Nat):Chg N s ⟨s.t,s.st.set o .dead,s.df⟩:=⟨fun B0 w0 G a w hI=>⟨G,.refl G,hI.agree.kill o,hI.defers,hI.size,hI.tmps⟩⟩
theorem chg_vecPub (i:Nat) {sz o:Nat} {T':TypeId} {xs:List AV} {v:AV} {ob:AObj} (hi:s.t i=v) (hV:Vec sz T' o xs v ob) (ho:s.st[o]? = some ob):Chg N s ⟨Av.put s.t i (.sl sz xs none),s.st.set o .dead,s.df⟩:=by
 cases hV with
 |nil hx=>
  subst hx
  exact (chg_weak i hi (fun _ _ h=>y0 h)).trans (chg_kill o)
 |os ver cap pad hl hw hle hcm=>
  have hm:xs.length * sz≤cap * sz:=Nat.mul_le_mul_right _ hle
  refine⟨fun _ _ _ _ _ hI=>hI.osPub hi ho rfl hle hw (by omega) ?_⟩
  rw [List.drop_zero,List.take_append_of_le_length (by rw [zo hw];exact Nat.le_refl _),List.take_of_length_le (by rw [zo hw];exact Nat.le_refl _)]
theorem chg_vecPubM (i:Nat) {sz k:Nat} {T':TypeId} {xs:List AV} {v:AV} {ob:AObj} {st loc ext new:List AObj} (hs:s.st=((st++loc)++ext)++new) (hi:s.t i=v) (hV:Vec sz T' (st.length+k) xs v ob) (ho:loc[k]? = some ob):Chg N s ⟨Av.put s.t i (.sl sz xs none),((st++loc.set k .dead)++ext)++new,s.df⟩:=by
 have:=chg_vecPub (N:=N) i hi hV (by rw [hs];exact qb7 ho)
 rw [hs,qg9 _ (lt_of_getElem? ho)] at this
 exact this
theorem aops_appendVM {rest:List Oper} {d:Option Tmp} {T:TypeId} {p:String} {af:Array Edge} {x y:Operand} {t u T':TypeId} {sz bytes k:Nat} {xs ys:List AV} {tip:Option Nat} {a:AV} {ob:AObj} {st loc ext new:List AObj} (hs:s.st=((st++loc)++ext)++new) (hx:qf N s x=a) (hy:qf N s y = .sl sz ys tip) (hV:Vec sz T' (st.length+k) xs a ob) (ho:loc[k]? = some ob)
  (ht:E.P.underlying t=some (.slice T')) (hu:E.P.underlying u=some (.slice T')) (hT:wh E.P T' sz bytes) (hone:jq (flat ys)=true) (h63:xs.length+ys.length≤maxLen) (hb:(xs.length+ys.length) * bytes≤140737488355328)
  (h:∀ a' ob',Vec sz T' (st.length+k) (xs++ys) a' ob'→AOps E rd N ops rest K (AS.put ⟨s.t,((st++loc.set k ob')++ext)++new,s.df⟩ d a')):AOps E rd N ops (⟨d,.call ⟨.builtin .append,#[x,y],#[t,u]⟩,T,p,af,none⟩::rest) K s:=
 aops_appendV hx hy hV (by rw [hs];exact qb7 ho) ht hu hT hone h63 hb fun a' ob' hV'=>by rw [hs,qg9 _ (lt_of_getElem? ho)];exact h a' ob' hV'
end
end Go.Av
namespace Go.Proofs.YtejoahlpbckbeaaGreatDoor
open Go Go.Av Go.RowKit Go.Proofs Go.Pl
theorem parts_end:∀ (n:Nat) (l:qc),l.length≤n→zn (l++[10])=zn l++[[]]
 |n,l,hn=>by
  by_cases h:10∈l
  ·have hne:l≠[]:=fun e=>by subst e;simp at h
   have hlt:=x7 (c:=10) hne
   cases n with
   |zero=>omega
   |succ n=>
    have ih:=parts_end n (past 10 l) (by omega)
    have e:=qcf h
    have e2:l++[10]=upto 10 l++10::(past 10 l++[10]):=(congrArg (· ++ [10]) e).trans (by simp)
    rw [qbi (by simp [h]),qbi h,e2,qb1 _ (qn5 10 l),qfe _ (qn5 10 l),ih]
    rfl
  ·rw [qbi (by simp),qbj h,qb1 [] h,qfe [] h]
   rw [qbj (by simp)]
   rfl
theorem parts_more:∀ (n:Nat) (l:qc) (c:UInt8),l.length≤n→c≠10→zn (l++[c])=(zn l).set ((zn l).length - 1) ((zn l).getD ((zn l).length - 1) []++[c])
 |n,l,c,hn,hc=>by
  by_cases h:10∈l
  ·have hne:l≠[]:=fun e=>by subst e;simp at h
   have hlt:=x7 (c:=10) hne
   cases n with
   |zero=>omega
   |succ n=>
    have ih:=parts_more n (past 10 l) c (by omega) hc
    have e:=qcf h
    have e2:l++[c]=upto 10 l++10::(past 10 l++[c]):=(congrArg (· ++ [c]) e).trans (by simp)
    have hp:=qob (past 10 l)
    have hpl:0<(zn (past 10 l)).length:=List.length_pos_iff.2 hp
    rw [qbi (by simp [h]),qbi h,e2,qb1 _ (qn5 10 l),qfe _ (qn5 10 l),ih]
    have e3:(upto 10 l::zn (past 10 l)).length - 1=(zn (past 10 l)).length - 1+1:=by simp;omega
    rw [e3,List.set_cons_succ]
    simp
  ·have h2:10∉l++[c]:=by simp [h,Ne.symm hc]
   rw [qbj h,qbj h2]
   simp
theorem parts_count (l:qc):(zn l).length≤l.length+1:=qd6 _ l (Nat.le_refl _)
theorem strs_flat (xs:List qc):flat (xs.map fun x=>Sv x)=xs.map fun x=>Sv x:=by
 induction xs with
 |nil=>rfl
 |cons a xs ih=>rw [List.map_cons,yz,ih];rfl
set_option maxHeartbeats 2000000 in
theorem refParts_c (l:qc) (st:List AObj) (hl:l.length<1000000):qn E 184 [Sv l] st fun r st'=>r=Ss (zn l)∧st'=st:=by
 refine zz (q82 _) (qx Tryz.func184 rfl (Nat.le_of_ble_eq_true rfl) ?_)
 have h0:Vec 1 9 (st.length+0) ((zn []).map fun x=>Sv x) (.os (st.length+0) 0 0 1 1) (.cells 0 9 [Sv []]):=by
  rw [qbj (by simp)]
  exact .os 0 1 [] rfl (by simp [AV.cells]) (Nat.le_refl _) (by decide)
 repeat' (first|(apply xq;(iterate 6 exact rfl))|apply qt|apply za|apply qj|apply qi|apply qk)
 refine qfp l (fun pre s=>∃ v ob,Vec 1 9 (st.length+0) ((zn pre).map fun x=>Sv x) v ob∧StE [(0,Sv l),(3,v),(4,Iv pre.length)] st [ob] s) ⟨_,_,h0,qpt ⟨rfl,rfl,rfl,trivial⟩ rfl⟩ ?_ ?_
 ·rintro _ ⟨v,ob,hV,t,ext,rfl⟩
  repeat' (first|apply qt|apply qj|apply qi|apply ql|apply qk|(apply q7;(iterate 3 exact rfl))|(apply qh;exact rfl;apply y4;exact cAo)|(apply yx;(iterate 3 exact rfl))|apply vt|apply zi)
  exact aret_chg (chg_vecPubM 2 rfl rfl hV rfl) (qv rfl (zw rfl) ⟨rfl,qka _ _ _ _⟩)
 ·rintro pre c rest _ hr ⟨v,ob,hV,t,ext,rfl⟩
  have hlen:l.length=pre.length+(rest.length+1):=by rw [hr];simp
  have hget:l.getD pre.length 0=c:=by rw [hr];simp
  have hsp:(l.take (pre.length+1)).drop pre.length=[c]:=by rw [hr,show pre++c::rest=(pre++[c])++rest by simp,List.take_left' (by simp),List.drop_left' rfl]
  have hpc:=parts_count pre
  rcases qvs hV with⟨h0,_⟩ | ⟨ver,cap,pad,rfl,rfl,hvl,hvw,hvle,hvm⟩
  ·exact absurd (List.map_eq_nil_iff.1 h0) (qob pre)
  simp only [List.length_map] at hvle
  have hpos:0<(zn pre).length:=List.length_pos_iff.2 (qob pre)
  have hml:((zn pre).map fun x=>Sv x).length=(zn pre).length:=by simp
  have hpl:((zn pre).getD ((zn pre).length - 1) []).length≤pre.length:=by
   have hlt:(zn pre).length - 1<(zn pre).length:=by omega
   have e:(zn pre).getD ((zn pre).length - 1) []=(zn pre)[(zn pre).length - 1]:=by simp [List.getD,hlt]
   rw [e]
   exact qlb pre _ (List.getElem_mem _)
  have hdl:((l.take (pre.length+1)).drop pre.length).length=1:=by rw [hsp];rfl
  have hld:(flat ((zn pre).map fun x=>Sv x)++pad)[0+((zn pre).length - 1) * 1]? = some (Sv ((zn pre).getD ((zn pre).length - 1) [])):=by
   rw [strs_flat,Nat.zero_add,Nat.mul_one,List.getElem?_append_left (by simp;omega),List.getElem?_map]
   have:(zn pre)[(zn pre).length - 1]? = some ((zn pre).getD ((zn pre).length - 1) []):=by
    have:(zn pre).length - 1<(zn pre).length:=by omega
    simp [List.getD,this]
   rw [this]
   rfl
  repeat' (first|(apply q1a;(iterate 5 exact rfl);kernel_rfl)|apply qt|apply za|apply qj|apply qi|apply ql|(apply q7;(iterate 3 exact rfl))|(apply qh;exact rfl;apply xk;exact cAo)|(apply qh;exact rfl;apply cd_d <;> intro h)|(apply yx;(iterate 3 exact rfl))|(apply qlj;(iterate 3 exact rfl);exact cAs)|(apply qfm;(iterate 9 exact rfl))|apply qs6|(apply q65;(iterate 4 exact rfl))|(apply q90;exact rfl;exact rfl;exact zy (by omega) (by omega))|(apply q67;(iterate 4 exact rfl);exact cAs;exact cAs)|(apply qp9;exact rfl;exact rfl;exact cOs)|apply qoy|(apply q9y;exact rfl;exact rfl;exact zy (by omega) (by omega))|apply q9|(apply qm0 (n:=(zn pre).length - 1);(iterate 4 exact rfl);(simp;omega);(simp;omega))|(apply qv4;(iterate 4 exact rfl);exact hld))
  ·refine aops_appendVM (xs:=(zn pre).map fun x=>Sv x) (ys:=[Sv []]) (sz:=1) (bytes:=16) rfl rfl rfl hV rfl rfl rfl ⟨⟨_,_,rfl,rfl,rfl,rfl,rfl⟩⟩ rfl ?_ ?_ ?_
   ·simp [maxLen];omega
   ·simp;omega
   intro a' ob' hV'
   repeat' (first|apply qj|apply qi|apply ql|apply qk|(apply jj;exact rfl;exact rfl;exact zy (by omega) (by omega)))
   have hc:c=10:=by rw [hget] at h;exact (u8_10 c).1 h
   refine⟨a',ob',?_,qjx ⟨rfl,rfl,?_,trivial⟩ rfl⟩
   ·rw [hc,parts_end _ pre (Nat.le_refl _),List.map_append]
    exact hV'
   ·rw [qfh pre c];rfl
  ·refine aops_store_midv (k:=0) (sz:=1) rfl rfl rfl rfl rfl rfl rfl rfl rfl (by show 0+((zn pre).length - 1) * 1+1≤_;rw [hvl];omega) ?_
   repeat' (first|apply qj|apply qi|apply ql|apply qk|(apply jj;exact rfl;exact rfl;exact zy (by omega) (by omega)))
   have hc:c≠10:=fun e=>by rw [hget] at h;exact h ((u8_10 c).2 e)
   refine⟨_,_,?_,qjx ⟨rfl,rfl,?_,trivial⟩ rfl⟩
   ·rw [parts_more _ pre c (Nat.le_refl _) hc,← hsp]
    have:=vec_set (o:=st.length+0) (T:=9) (ver:=ver) (sz:=1) hvl hvw (by simpa using hvle) hvm (i:=(zn pre).length - 1) (x:=Sv ((zn pre).getD ((zn pre).length - 1) []++(l.take (pre.length+1)).drop pre.length)) rfl (by simp;omega)
    rw [← List.map_set] at this
    exact this
   ·rw [qfh pre c];rfl
theorem refCheck04_c (f:FldV) (st:List AObj) (hl:f.1.length<4294967281):qn E 179 [fldA f] st fun r st'=>r=Iv (ka f)∧st'=st:=by
 refine zz (q8 _) (qx Tryz.func179 rfl (Nat.le_of_ble_eq_true rfl) ?_)
 repeat' (first|apply qt|apply qj|apply qi|apply qk|(apply q7;(iterate 3 exact rfl))|(apply wx;exact rfl)|(apply qh;exact rfl;apply cd_n <;> intro h)|(apply qh;exact rfl;apply cd_d <;> intro h)|(apply yx;(iterate 3 exact rfl))|(apply qcw;(iterate 4 exact rfl))|(apply jg;(iterate 3 exact rfl))|(apply km;(iterate 5 exact rfl))|apply q9|apply zi|(apply q5;exact Tryz.call213;exact refKey_c _ _ hl))
 all_goals refine qv rfl (zw rfl) ⟨congrArg Iv (?_:_=ka f),_,rfl⟩
 ·exact (if_pos (by simp_all):ka f=5).symm
 ·exact ((if_neg (by simp_all)).trans (if_pos (by omega)):ka f=6).symm
 ·exact ((if_neg (by simp_all)).trans (if_neg (by omega)):ka f=0).symm
theorem kind_one {s:qc} (h:10∉s):qm s=1↔qbt s:=by
 unfold qm qbt
 rw [if_neg h]
 by_cases hb:∀ c∈s,wm c
 ·rw [if_pos hb]
  exact⟨fun _=>hb,fun _=>rfl⟩
 ·rw [if_neg hb]
  refine⟨fun h=>?_,fun h=>absurd h hb⟩
  exfalso
  revert h
  repeat' split
  all_goals decide
theorem partsE_c (l p:qc) (r:List qc) (st:List AObj) (hl:l.length<1000000) (h:zn l=p::r):qn E 184 [Sv l] st fun x st'=>x = .sl 1 (Sv p::r.map fun x=>Sv x) none∧st'=st:=by
 have:=refParts_c l st hl
 rw [h] at this
 exact this
theorem linesF_cons {f:Fld} {p:qc} {r:List qc} (h:zn f.2=p::r):z7 f=j8 f.1 p::r.map fun s=>[32]++vq s:=by
 unfold z7
 rw [h]
 rfl
theorem linesF_lenW (f:Fld):(q6 (z7 f)).length≤f.1.length+3 * f.2.length+3:=by
 have h1:=qvn (zn f.2).tail
 have h2:=congrArg List.length (qhz _ f.2 (Nat.le_refl _))
 have h3:(j8 f.1 ((zn f.2).headD [])).length≤f.1.length+2+((zn f.2).headD []).length:=by
  unfold j8
  split <;> simp <;> omega
 have e:z7 f=[j8 f.1 ((zn f.2).headD [])]++(zn f.2).tail.map fun s=>[32]++vq s:=rfl
 rw [e,yh,qjz]
 simp only [List.length_append,List.length_cons,List.length_nil] at h2 ⊢
 omega
theorem foldF_lenW:∀ (xs:List Fld),(∀ f∈xs,f.1.length<4294967281∧f.2.length<1000000)→(js xs).length≤5000000000 * xs.length
 | [],_=>by simp [js]
 |f::r,h=>by
  have ih:=foldF_lenW r fun x hx=>h x (by simp [hx])
  have h1:=linesF_lenW f
  have h2:=h f (by simp)
  have e:js (f::r)=q6 (z7 f)++js r:=by simp [js]
  rw [e,List.length_append,List.length_cons]
  omega
theorem refCut4_c (l:qc) (st:List AObj) (hl:l.length<4294967281) (h:qm l=4):qn E 170 [Sv l] st fun r st'=>r = .tu [Sv (ji l),Sv (w7 l),Bv true]∧st'=st:=by
 have:=refCut_c l st hl
 have e:cutOf l=(ji l,w7 l,true):=if_pos (qjg.1 h)
 rw [e] at this
 exact this
def refUnfoldA (ls:List qc):AV:=.tu [fldA (ja ls).1,Iv (ja ls).2]
theorem refUnfoldA_pure (ls:List qc):Pure (refUnfoldA ls):=qes fun x hx=>by
 simp only [List.mem_cons,List.not_mem_nil,or_false] at hx
 rcases hx with rfl|rfl
 ·exact qpl fun x hx=>by
   simp only [List.mem_cons,List.not_mem_nil,or_false] at hx
   rcases hx with rfl|rfl <;> exact q8 _
 ·exact q8 _
def accU (l:qc) (pre:List qc):qc:=wu 32 (w7 l)++pre.flatMap fun s=>[10]++wu 46 (s.drop 1)
theorem accU_snoc (l:qc) (pre:List qc) (a:qc):accU l (pre++[a])=(accU l pre++[10])++wu 46 (a.drop 1):=by
 unfold accU
 rw [List.flatMap_append]
 simp
theorem accU_len (l:qc) (pre:List qc) (h:∀ s∈pre,s.length<1000000):(accU l pre).length≤l.length+1000001 * pre.length:=by
 have htr:(wu 32 (w7 l)).length≤l.length:=by unfold wu w7;split <;> simp <;> omega
 have:=qvj pre h
 unfold accU
 rw [List.length_append]
 omega
theorem u8_46 (c:UInt8):((c.toNat:Nat):Int)=46↔c=46:=u8i c 46 (by omega)
end Go.Proofs.YtejoahlpbckbeaaGreatDoor
namespace Go.Pl
open Go Go.Proofs
theorem lns_nil (k a:Nat):qxu k a []=[]:=by unfold qxu;simp
theorem lns_cons {k a:Nat} {l:qc} (h:l≠[]):qxu k a l=⟨k,a,upto 10 l,decide (10∈l)⟩::qxu (k+1) (a+(upto 10 l).length+1) (past 10 l):=by
 conv=>lhs;unfold qxu
 rw [dif_neg h]
theorem whole_past {l:qc} (h:whole l) (hne:l≠[]):10∈l∧whole (past 10 l):=by
 have hl:l.getLast? = some 10:=h.resolve_left hne
 have h10:10∈l:=List.mem_of_getLast? hl
 refine⟨h10,?_⟩
 by_cases hp:past 10 l=[]
 ·exact .inl hp
 ·refine .inr ?_
  have e:=qcf h10
  rw [e] at hl
  rw [List.getLast?_append,List.getLast?_cons] at hl
  cases hg:(past 10 l).getLast? with
  |none=>exact absurd (List.getLast?_eq_none_iff.1 hg) hp
  |some c=>rw [hg] at hl;simpa using hl
theorem lns_app:∀ (n:Nat) (d x:qc) (k a:Nat),d.length≤n→whole d→qxu k a (d++x)=qxu k a d++qxu (k+(qxu k a d).length) (a+d.length) x
 |n,d,x,k,a,hn,hw=>by
  by_cases hd:d=[]
  ·subst hd
   simp [lns_nil]
  ·obtain⟨h10,hw'⟩:=whole_past hw hd
   have e:=qcf h10
   have hlt:=x7 (c:=10) hd
   cases n with
   |zero=>omega
   |succ n=>
    have e2:d++x=upto 10 d++10::(past 10 d++x):=(congrArg (· ++ x) e).trans (by simp)
    have hu:upto 10 (d++x)=upto 10 d:=by rw [e2];exact qb1 _ (qn5 10 d)
    have hp:past 10 (d++x)=past 10 d++x:=by rw [e2];exact qfe _ (qn5 10 d)
    have hdl:d.length=(upto 10 d).length+1+(past 10 d).length:=by
     have:=congrArg List.length e
     simp at this
     omega
    rw [lns_cons (l:=d++x) (by simp [hd]),lns_cons hd,hu,hp,lns_app n (past 10 d) x _ _ (by omega) hw']
    have h1:10∈d++x:=by simp [h10]
    simp only [h1,h10,List.cons_append,List.length_cons]
    congr 2
    have e3:∀ m:Nat,k+1+m=k+(m+1):=fun m=>by omega
    rw [e3]
    congr 1
    omega
theorem lns_one {c:qc} (k a:Nat) (h:10∉c):qxu k a (c++[10])=[⟨k,a,c,true⟩]:=by
 rw [lns_cons (by simp),qb1 [] h,qfe [] h,lns_nil]
 simp
theorem lns_last {c:qc} (k a:Nat) (h:10∉c) (hne:c≠[]):qxu k a c=[⟨k,a,c,false⟩]:=by
 rw [lns_cons hne,qda h]
 have:past 10 c=[]:=by
  unfold past
  rw [qda h]
  simp
 rw [this,lns_nil]
 simp [h]
theorem lns_count:∀ (n:Nat) (l:qc) (k a:Nat),l.length≤n→(qxu k a l).length≤l.length
 |n,l,k,a,hn=>by
  by_cases h:l=[]
  ·subst h;simp [lns_nil]
  ·have hlt:=x7 (c:=10) h
   cases n with
   |zero=>omega
   |succ n=>
    rw [lns_cons h,List.length_cons]
    have:=lns_count n (past 10 l) (k+1) (a+(upto 10 l).length+1) (by omega)
    omega
theorem lns_lines:∀ (n:Nat) (l:qc) (k a:Nat),l.length≤n→(qxu k a l).map (fun x=>(x.text,x.ended))=zj l
 |n,l,k,a,hn=>by
  by_cases h:l=[]
  ·subst h;simp [lns_nil,vg]
  ·have hlt:=x7 (c:=10) h
   cases n with
   |zero=>omega
   |succ n=>rw [lns_cons h,wq h,List.map_cons,lns_lines n _ _ _ (by omega)]
end Go.Pl
namespace Go.Proofs.YtejoahlpbckbeaaGreatDoor
open Go Go.Av Go.RowKit Go.Proofs Go.Pl
@[reducible] def lnA (x : LnV) : AV := .ag [Iv x.no, Iv x.at', Sv x.text, Bv x.ended]
@[reducible] def lnsA (xs : List LnV) : AV := .sl 4 (xs.map lnA) none
theorem pure_lns (xs:List LnV):Pure (lnsA xs):=qa7 fun x hx=>by
 simp only [List.mem_map] at hx
 obtain⟨f,_,rfl⟩:=hx
 intro y hy
 simp [AV.cells] at hy
 rcases hy with rfl|rfl|rfl|rfl <;> exact q8 _
set_option maxHeartbeats 4000000 in
theorem refSplit_c (l:qc) (st:List AObj) (hl:l.length<100000000):qn E 87 [Sv l] st fun r st'=>r=lnsA (lns l)∧st'=st:=by
 refine zz (pure_lns _) (qx Tryz.func87 rfl (Nat.le_of_ble_eq_true rfl) ?_)
 repeat' (first|apply qt|apply za|apply qj|apply qi|apply qk)
 refine awp_newTip (i:=3) (sz:=4) (T':=157) rfl ?_
 refine qfp l (fun pre s=>∃ d c,pre=d++c∧whole d∧10∉c∧StE [(0,Sv l),(3,.sl 4 ((lns d).map lnA) (some (st.length+0))),(4,Iv d.length),(5,Iv pre.length)] st [.tip (lns d).length 4 157] s) ⟨[],[],rfl,.inl rfl,by simp,qpt ⟨rfl,?_,rfl,rfl,trivial⟩ ?_⟩ ?_ ?_
 ·rw [show lns []=[] from lns_nil 0 0];simp;rfl
 ·rw [show lns []=[] from lns_nil 0 0];show (st++[])++[AObj.tip 0 4 _]=_;simp
 ·rintro _ ⟨d,c,hdc,hw,hc,t,ext,rfl⟩
  have hll:l.length=d.length+c.length:=by rw [hdc];simp
  have hcnt:=lns_count _ d 0 0 (Nat.le_refl _)
  have hcnt':(lns d).length≤d.length:=hcnt
  have hml:((lns d).map lnA).length=(lns d).length:=by simp
  have happ:lns l=lns d++qxu (lns d).length d.length c:=by
   unfold lns
   rw [hdc,lns_app _ d c 0 0 (Nat.le_refl _) hw]
   simp
  have hfrom:l.drop d.length=c:=by rw [hdc];simp
  repeat' (first|apply qt|apply qj|apply qi|apply ql|apply qk|(apply q7;(iterate 3 exact rfl))|(apply qh;exact rfl;apply y4;exact cAo)|(apply qh;exact rfl;apply cd_d <;> intro h)|(apply yx;(iterate 3 exact rfl))|(apply jx;(iterate 4 exact rfl))|(apply qp2;(iterate 3 exact rfl);exact cAs)|(apply qa1;(iterate 3 exact rfl))|(apply qfm;(iterate 9 exact rfl))|apply q9|apply vt|apply zi|(apply qmo (n:=(lns d).length) (m:=1) (sz:=4) (bytes:=40);(iterate 4 exact rfl);exact hml;exact rfl;exact rfl;exact⟨⟨_,_,rfl,rfl,rfl,rfl,rfl⟩⟩;exact rfl;exact rfl;(unfold maxLen;omega);omega;exact rfl))
  ·have hne:c≠[]:=fun e=>by subst e;simp at hll;omega
   have e:AV.sl 4 ((lns d).map lnA++[AV.ag [Iv ((lns d).map lnA).length,Iv d.length,Sv (l.drop d.length),Bv false]]) none=AV.sl 4 ((lns l).map lnA) none:=by
    rw [happ,lns_last _ _ hc hne,hml,hfrom,List.map_append]
    rfl
   exact qv rfl (ares_slice rfl rfl) ⟨e,qka _ _ _ _⟩
  ·have hce:c=[]:=List.length_eq_zero_iff.1 (by omega)
   refine qv rfl (ares_slice rfl rfl) ⟨?_,qka _ _ _ _⟩
   rw [happ,hce,lns_nil,List.append_nil]
 ·rintro pre a rest _ hr ⟨d,c,hdc,hw,hc,t,ext,rfl⟩
  have hlen:l.length=pre.length+(rest.length+1):=by rw [hr];simp
  have hpl:pre.length=d.length+c.length:=by rw [hdc];simp
  have hget:l.getD pre.length 0=a:=by rw [hr];simp
  have hcnt:=lns_count _ d 0 0 (Nat.le_refl _)
  have hcnt':(lns d).length≤d.length:=hcnt
  have hml:((lns d).map lnA).length=(lns d).length:=by simp
  have hsp:(l.take pre.length).drop d.length=c:=by rw [hr,List.take_left' rfl,hdc,List.drop_left' rfl]
  repeat' (first|apply qt|apply za|apply qj|apply qi|apply ql|apply qk|(apply q7;(iterate 3 exact rfl))|(apply qh;exact rfl;apply xk;exact cAo)|(apply qh;exact rfl;apply cd_d <;> intro h)|(apply yx;(iterate 3 exact rfl))|(apply jx;(iterate 4 exact rfl))|(apply jj;exact rfl;exact rfl;exact zy (by omega) (by omega))|(apply qlj;(iterate 3 exact rfl);exact cAs)|(apply qp3;(iterate 4 exact rfl);exact cAs;exact cAs)|(apply qa1;(iterate 3 exact rfl))|(apply qfm;(iterate 9 exact rfl))|apply q9|(apply qmo (n:=(lns d).length) (m:=1) (sz:=4) (bytes:=40);(iterate 4 exact rfl);exact hml;exact rfl;exact rfl;exact⟨⟨_,_,rfl,rfl,rfl,rfl,rfl⟩⟩;exact rfl;exact rfl;(unfold maxLen;omega);omega;exact rfl))
  ·have ha:a=10:=by have h:=(u8_10 _).1 (by assumption:((l.getD pre.length 0).toNat:Int)=10);rw [hget] at h;exact h
   have happ:lns (d++(c++[10]))=lns d++[⟨(lns d).length,d.length,c,true⟩]:=by
    unfold lns
    rw [lns_app _ d (c++[10]) 0 0 (Nat.le_refl _) hw,lns_one _ _ hc]
    simp
   refine⟨d++(c++[10]),[],by rw [ha,hdc];simp,.inr (by simp),by simp,qjx ⟨rfl,?_,?_,q8d pre a,trivial⟩ ?_⟩
   ·have e:AV.sl 4 ((lns d).map lnA++[AV.ag [Iv ((lns d).map lnA).length,Iv d.length,Sv ((l.take pre.length).drop d.length),Bv true]]) (some (st.length+0))=AV.sl 4 ((lns (d++(c++[10]))).map lnA) (some (st.length+0)):=by
     rw [happ,hml,hsp,List.map_append]
     rfl
    exact e
   ·have e:Iv ((pre.length:Int)+1)=Iv ((d++(c++[10])).length:Nat):=by
     have:(d++(c++[10])).length=pre.length+1:=by simp;omega
     rw [this]
     rfl
    exact e
   ·rw [happ,qfh];rfl
  ·have ha:a≠10:=fun e=>absurd (by rw [hget];exact (u8_10 _).2 e:((l.getD pre.length 0).toNat:Int)=10) (by assumption)
   exact⟨d,c++[a],by rw [hdc];simp,hw,by simp [hc,Ne.symm ha],qjx ⟨rfl,rfl,rfl,q8d pre a,trivial⟩ rfl⟩
end Go.Proofs.YtejoahlpbckbeaaGreatDoor
namespace Go.Pl
open Go Go.Proofs
theorem lns_pairs (l:qc):(lns l).map qzz=zj l:=lns_lines _ l 0 0 (Nat.le_refl _)
end Go.Pl
namespace Go.Proofs.YtejoahlpbckbeaaGreatDoor
open Go Go.Av Go.RowKit Go.Proofs Go.Pl
theorem trim1_head {b:UInt8} {v:qc}:wu b v=if 0<v.length∧v.getD 0 0=b then v.drop 1 else v:=by
 cases v with
 |nil=>rfl
 |cons x r=>
  unfold wu
  by_cases h:x=b <;> simp [h]
set_option maxHeartbeats 2000000 in
theorem refUnfoldE_c (ls:List qc) (st:List AObj) (hB:LsB ls):qn E 115 [Ss ls] st fun r st'=>r=refUnfoldA ls∧st'=st:=by
 refine jc [.a (Ss ls)] (refUnfoldA_pure _) Tryz.func115 rfl rfl (fun _=>rfl) rfl fun S0=>?_
 have hL:=hB.len
 have hml:(ls.map fun x=>Sv x).length=ls.length:=by simp
 cases ls with
 |nil=>
  apply qe [2]
  repeat' (first|apply And.intro|(intro h;try exact cDd)|exact cSd|apply qd [2]|refine exr ?_|refine qg ?_)
 |cons l r=>
  have hl:=hB.val l (by simp)
  simp only [List.length_cons] at hL hml
  have hkd:=fun st=>refKind_c l st (by omega)
  have hget0:((l::r).map fun x=>Sv x)[0]? = some (Sv l):=rfl
  by_cases h4:qm l=4
  ·have hcu:=fun st=>refCut4_c l st (by omega) h4
   simp only [h4] at hkd
   have htr:(wu 32 (w7 l)).length≤l.length:=by unfold wu w7;split <;> simp <;> omega
   have hrl:(w7 l).length≤l.length:=by unfold w7;simp
   apply qe [2]
   repeat' (first|apply And.intro|(intro h;try exact cDd)|(refine Exists.intro (0) ⟨by omega,_,hget0,?_⟩)|exact⟨Tryz.call136⟩|refine cpe hkd ?_|exact⟨Tryz.call170⟩|refine cpe hcu ?_|exact cSd|apply qd [2]|refine exr ?_|refine qg ?_)
   all_goals
    refine vv (X:=Nat×qc) (fun (k,acc)=>⟨[(0,.a (Ss (l::r))),(2,.bx 0 0),(4,.s (ji l)),(5,.s acc),(7,.i ((k:Int)+1))],[(0,some (.cells 130 [.s [],.s []]))],1⟩) (fun (k,acc)=>k≤r.length∧(∀ x∈r.take k,qm x=3)∧acc=accU l (r.take k)) (fun (k,_)=>r.length - k) (0,wu 32 (w7 l)) ⟨by omega,by simp,by simp [accU]⟩ ?_ ?_
    ·skip
     repeat' (first|apply And.intro|(intro h;try exact cDd)|exact cSd|apply qd []|refine exr ?_|refine qg ?_)
     all_goals (rw [trim1_head];split <;> rename_i h <;> first|rfl|(exfalso;omega)|exact absurd ((u8_32 _).2 h.2) (by assumption)|exact absurd ⟨by omega,(u8_32 _).1 (by assumption)⟩ h)
    ·rintro⟨k,acc⟩ ⟨hk,h3,hacc⟩
     have hal:=accU_len l (r.take k) fun s hs=>hB.val s (by simp [List.mem_of_mem_take hs])
     rw [← hacc,List.length_take] at hal
     by_cases hlt:k<r.length
     ·obtain⟨a,ha⟩:∃ a,r[k]? = some a:=⟨_,List.getElem?_eq_getElem hlt⟩
      have hget:((l::r).map fun x=>Sv x)[k+1]? = some (Sv a):=by simp [ha]
      have hav:=hB.val a (by simp [List.mem_of_getElem? ha])
      have hka:=fun st=>refKind_c a st (by omega)
      have htk:r.take (k+1)=r.take k++[a]:=by
       obtain⟨_,rfl⟩:=List.getElem?_eq_some_iff.1 ha
       rw [List.take_append_getElem]
      by_cases hk3:qm a=3
      ·obtain⟨h2,_⟩:=qpd hk3
       simp only [hk3] at hka
       have hd1:(a.drop 1).length=a.length - 1:=by simp
       have hac:=accU_snoc l (r.take k) a
       rw [← hacc,← htk,trim1_head] at hac
       apply qe []
       repeat' (first|apply And.intro|(intro h;try exact cDd)|(refine Exists.intro ((k+1)) ⟨by omega,_,hget,?_⟩)|exact⟨Tryz.call136⟩|refine cpe hka ?_|(refine Exists.intro (k+1,_) ⟨⟨by omega,by rw [htk];exact ql3 h3 hk3,rfl⟩,by simp only;omega,?_⟩)|exact cSd|apply qd []|refine exr ?_|refine qg ?_)
       all_goals (rw [hac];split <;> rename_i h <;> first|rfl|(simp only [List.append_assoc];rfl)|(exfalso;omega)|exact absurd ((u8_46 _).2 h.2) (by assumption)|exact absurd ⟨by omega,(u8_46 _).1 (by assumption)⟩ h)
      ·have hno:ja (l::r)=(([],[]),2):=if_neg fun h=>hk3 (h.2.2 a (List.mem_of_getElem? ha))
       unfold refUnfoldA
       rw [hno]
       apply qe []
       repeat' (first|apply And.intro|(intro h;try exact cDd)|(refine Exists.intro ((k+1)) ⟨by omega,_,hget,?_⟩)|exact⟨Tryz.call136⟩|refine cpe hka ?_|exact absurd (by assumption) hk3|exact cSd|apply qd []|refine exr ?_|refine qg ?_)
     ·rw [List.take_of_length_le (by omega)] at h3 hacc
      have hun:ja (l::r)=if 1000<(accU l r).length then (([],[]),6) else ((ji l,accU l r),0):=if_pos ⟨by simp,h4,h3⟩
      unfold refUnfoldA
      rw [hun,← hacc]
      apply qe []
      repeat' (first|apply And.intro|(intro h;try exact cDd)|exact cSd|apply qd []|refine exr ?_|refine qg ?_)
      all_goals (split <;> first|rfl|omega)
  ·have hno:ja (l::r)=(([],[]),2):=if_neg fun h=>h4 h.2.1
   unfold refUnfoldA
   rw [hno]
   apply qe [2]
   repeat' (first|apply And.intro|(intro h;try exact cDd)|(refine Exists.intro (0) ⟨by omega,_,hget0,?_⟩)|exact⟨Tryz.call136⟩|refine cpe hkd ?_|exact cSd|apply qd [2]|refine exr ?_|refine qg ?_)
theorem stuffF_head {a:qc} (h10:10∉a):vq a=if qm a=1∨a.getD 0 0=46 then 46::a else a:=by
 have hk:=kind_one h10
 unfold vq
 cases a with
 |nil=>simp [hk,qbt]
 |cons x y=>simp only [List.head?_cons,Option.some.injEq,hk];rfl
def outK (hd:qc) (r:List qc) (k:Nat):List AV:=(hd::(r.take k).map fun s=>[32]++vq s).map fun x=>Sv x
theorem outK_next {hd:qc} {r:List qc} {k:Nat} {a:qc} (h:r[k]? = some a):outK hd r (k+1)=outK hd r k++[Sv ([32]++vq a)]:=by
 obtain⟨hlt,rfl⟩:=List.getElem?_eq_some_iff.1 h
 unfold outK
 rw [← List.take_append_getElem hlt]
 simp only [List.map_append,List.map_cons,List.map_nil,List.cons_append]
theorem outK_len {hd:qc} {r:List qc} {k:Nat} (h:k≤r.length):(outK hd r k).length=k+1:=by
 unfold outK
 simp
 omega
set_option maxHeartbeats 2000000 in
theorem ref4LinesE_c (f:FldV) (st:List AObj) (hl:f.1.length<4294967281) (hv:f.2.length<1000000):qn E 131 [fldA f] st fun r st'=>r=Ss (z7 f)∧st'=st:=by
 obtain⟨key,val⟩:=f
 dsimp only at hl hv
 refine jc [.a (.ag [Sv key,Sv val])] (q82 _) Tryz.func131 rfl rfl (fun _=>rfl) rfl fun S0=>?_
 obtain⟨p,r,hp⟩:∃ p r,zn val=p::r:=⟨_,_,qoa val⟩
 have hpl:p.length≤val.length:=qlb val p (by rw [hp];simp)
 have hrl:∀ x∈r,x.length≤val.length:=fun x hx=>qlb val x (by rw [hp];simp [hx])
 have hr10:∀ x∈r,10∉x:=fun x hx=>qct val x (by rw [hp];simp [hx])
 have hrn:r.length≤val.length:=by have:=qd6 _ val (Nat.le_refl _);rw [hp] at this;simpa using this
 have hlen:(Sv p::r.map fun x=>Sv x).length=r.length+1:=by simp
 have hpt:=fun st=>partsE_c val p r st hv hp
 have hget0:(Sv p::r.map fun x=>Sv x)[0]? = some (Sv p):=rfl
 rw [linesF_cons (f:=(key,val)) hp]
 generalize hhd:j8 key p=hd
 have hll:Ss (hd::r.map fun s=>[32]++vq s) = .sl 1 (outK hd r r.length) none:=by unfold outK;rw [List.take_length]
 rw [hll]
 apply qe [1,24]
 repeat' (first|apply And.intro|(intro h;try exact cDd)|exact⟨Tryz.call184⟩|refine cpe hpt ?_|(refine Exists.intro (0) ⟨by omega,_,hget0,?_⟩)|exact cSd|apply qd [1,24]|refine exr ?_|refine qg ?_)
 all_goals
  refine vv (X:=Nat) (fun k=>⟨[(3,.a (.sl 1 (Sv p::r.map fun x=>Sv x) none)),(5,.tp 0),(6,.i ((k:Int)+1))],[(0,some (.tip 1 9 (outK hd r k)))],1⟩) (fun k=>k≤r.length) (fun k=>r.length - k) 0 (by omega) ?_ ?_
  ·skip
   repeat' (first|apply And.intro|(intro h;try exact cDd)|exact cSd|apply qd []|refine exr ?_|refine qg ?_)
   all_goals (subst hhd;unfold j8 outK;simp_all [SV.evs,SV.ev])
  ·rintro k hk
   have hol:=outK_len (hd:=hd) hk
   by_cases hlt:k<r.length
   ·obtain⟨a,ha⟩:∃ a,r[k]? = some a:=⟨_,List.getElem?_eq_getElem hlt⟩
    have hget:(Sv p::r.map fun x=>Sv x)[k+1]? = some (Sv a):=by simp [ha]
    have ham:=List.mem_of_getElem? ha
    have hal:=hrl a ham
    have hka:=fun st=>refKind_c a st (by omega)
    have hst:=stuffF_head (hr10 a ham)
    have hnx:=outK_next (hd:=hd) ha
    rw [hst] at hnx
    have hk0:qm a≠1→0<a.length:=fun h=>List.length_pos_iff.2 fun e=>h (by subst e;rfl)
    by_cases hk1:qm a=1
    ·simp only [hk1] at hka
     rw [if_pos (.inl hk1)] at hnx
     apply qe []
     repeat' (first|apply And.intro|(intro h;try exact cDd)|(refine Exists.intro ((k+1)) ⟨by omega,_,hget,?_⟩)|exact⟨Tryz.call136⟩|refine cpe hka ?_|(refine Exists.intro (k+1) ⟨by omega,by omega,?_⟩)|exact cSd|apply qd []|refine exr ?_|refine qg ?_)
     all_goals first|(rw [hnx];done)|(rw [hnx];simp [SV.evs,SV.ev];done)|(simp only [List.length_cons,List.length_nil];omega)
    ·have hpos:=hk0 hk1
     apply qe []
     repeat' (first|apply And.intro|(intro h;try exact cDd)|(refine Exists.intro ((k+1)) ⟨by omega,_,hget,?_⟩)|exact⟨Tryz.call136⟩|refine cpe hka ?_|(refine Exists.intro (k+1) ⟨by omega,by omega,?_⟩)|exact cSd|apply qd []|refine exr ?_|refine qg ?_)
     all_goals first|(rw [hnx,if_pos (.inr ((u8_46 _).1 (by assumption)))];simp [SV.evs,SV.ev];done)|(rw [hnx,if_neg (by simp only [hk1,false_or];intro e;exact absurd ((u8_46 _).2 e) (by assumption))];done)|(simp only [List.length_cons,List.length_nil];omega)
   ·rw [show k=r.length by omega]
    apply qe []
    repeat' (first|apply And.intro|(intro h;try exact cDd)|exact cSd|apply qd []|refine exr ?_|refine qg ?_)
set_option maxHeartbeats 2000000 in
theorem refFoldE_c (xs:List FldV) (st:List AObj) (hx:q6m xs):qn E 82 [zr xs] st fun r st'=>r=Sv (js xs)∧st'=st:=by
 refine jc [.a (zr xs)] (q8 _) Tryz.func82 rfl rfl (fun _=>rfl) rfl fun S0=>?_
 have hxl:=hx.len
 have hml:(xs.map fldA).length=xs.length:=by simp
 apply qe []
 repeat' (first|apply And.intro|(intro h;try exact cDd)|exact cSd|apply qd []|refine exr ?_|refine qg ?_)
 refine vv (X:=Nat) (fun k=>⟨[(0,.a (zr xs)),(3,.s (js (xs.take k))),(4,.i k)],[],0⟩) (fun k=>k≤xs.length) (fun k=>xs.length - k) 0 (by omega) ?_ ?_
 ·skip
  repeat' (first|apply And.intro|(intro h;try exact cDd)|exact cSd|apply qd []|refine exr ?_|refine qg ?_)
 ·rintro k hk
  by_cases hlt:k<xs.length
  ·obtain⟨f,hf⟩:∃ f,xs[k]? = some f:=⟨_,List.getElem?_eq_getElem hlt⟩
   have hget:(xs.map fldA)[k]? = some (fldA f):=by simp [hf]
   obtain⟨hf1,hf2⟩:=hx.val f (List.mem_of_getElem? hf)
   have hb1:=foldF_lenW (xs.take k) fun g hg=>hx.val g (List.mem_of_mem_take hg)
   rw [List.length_take] at hb1
   have hb2:=linesF_lenW f
   have hln:=fun st=>ref4LinesE_c f st hf1 hf2
   have htk:js (xs.take (k+1))=js (xs.take k)++q6 (z7 f):=by
    obtain⟨_,rfl⟩:=List.getElem?_eq_some_iff.1 hf
    rw [← List.take_append_getElem hlt,q17,q18]
   have hsl:((z7 f).map fun x=>Sv x).length=(z7 f).length:=by simp
   have hsn:=qlf (z7 f)
   apply qe []
   repeat' (first|apply And.intro|(intro h;try exact cDd)|(refine Exists.intro (k) ⟨by omega,_,hget,?_⟩)|exact⟨Tryz.call131⟩|refine cpe hln ?_|exact cSd|apply qd []|refine exr ?_|refine qg ?_)
   refine vv (X:=Nat) (fun j=>⟨[(0,.a (zr xs)),(3,.s (js (xs.take k)++q6 ((z7 f).take j))),(4,.i k),(17,.a (Ss (z7 f))),(18,.i ((z7 f).map fun x=>Sv x).length),(19,.i j)],[],0⟩) (fun j=>j≤(z7 f).length) (fun j=>(z7 f).length - j) 0 (by omega) ?_ ?_
   ·skip
    repeat' (first|apply And.intro|(intro h;try exact cDd)|exact cSd|apply qd []|refine exr ?_|refine qg ?_)
    all_goals (simp [q6];done)
   ·rintro j hj
    by_cases hjl:j<(z7 f).length
    ·obtain⟨a,ha⟩:∃ a,(z7 f)[j]? = some a:=⟨_,List.getElem?_eq_getElem hjl⟩
     have hget2:((z7 f).map fun x=>Sv x)[j]? = some (Sv a):=by simp [ha]
     have htj:q6 ((z7 f).take (j+1))=q6 ((z7 f).take j)++a++[10]:=by
      obtain⟨_,rfl⟩:=List.getElem?_eq_some_iff.1 ha
      rw [← List.take_append_getElem hjl,yh,qjz,List.append_assoc]
     have hbj:(q6 ((z7 f).take (j+1))).length≤(q6 (z7 f)).length:=by
      have:=congrArg (fun l=>(q6 l).length) (List.take_append_drop (j+1) (z7 f))
      simp only [yh,List.length_append] at this
      omega
     have hbl:=congrArg List.length htj
     simp only [List.length_append,List.length_cons,List.length_nil] at hbl
     apply qe []
     repeat' (first|apply And.intro|(intro h;try exact cDd)|(refine Exists.intro (j) ⟨by omega,_,hget2,?_⟩)|(refine Exists.intro (j+1) ⟨by omega,by omega,?_⟩)|exact cSd|apply qd []|refine exr ?_|refine qg ?_)
     all_goals first|(rw [htj];simp;done)|(simp only [List.length_append,List.length_cons,List.length_nil];omega)
    ·rw [List.take_of_length_le (show (z7 f).length≤j by omega)]
     apply qe []
     repeat' (first|apply And.intro|(intro h;try exact cDd)|(refine Exists.intro (k+1) ⟨by omega,by omega,?_⟩)|exact cSd|apply qd []|refine exr ?_|refine qg ?_)
     all_goals (rw [htk];done)
  ·rw [List.take_of_length_le (by omega)]
   apply qe []
   repeat' (first|apply And.intro|(intro h;try exact cDd)|exact cSd|apply qd []|refine exr ?_|refine qg ?_)
theorem pure_ii (a b:Int):Pure (.tu [Iv a,Iv b]):=w6 (q8 _) (q8 _)
theorem refCheck06_c (fs:List Fld) (st:List AObj) (hK:KeyB fs) (hl:fs.length<9223372036854775808):qn E 124 [zr fs] st fun r st'=>r = .tu [Iv (zl fs).pos,Iv (zl fs).code]∧st'=st:=by
 refine jc [.a (zr fs)] (pure_ii _ _) Tryz.func124 rfl rfl (fun _=>rfl) rfl fun S0=>?_
 have hml:(fs.map fldA).length=fs.length:=by simp
 apply qe []
 repeat' (first|apply And.intro|(intro h;try exact cDd)|exact cSd|apply qd []|refine exr ?_|refine qg ?_)
 ·rw [q1m (by omega)];rfl
 ·rw [qyx (by omega)];rfl
 rw [q1n (by omega) (by omega)]
 refine vv (X:=Nat) (fun k=>⟨[(0,.a (zr fs)),(4,.i k)],[],0⟩) (fun k=>k≤fs.length∧wi k (fs.drop k)=wi 0 fs) (fun k=>fs.length - k) 0 ⟨by omega,rfl⟩ ?_ ?_
 ·skip
  repeat' (first|apply And.intro|(intro h;try exact cDd)|exact cSd|apply qd []|refine exr ?_|refine qg ?_)
 ·rintro k ⟨hk,hc⟩
  by_cases hlt:k<fs.length
  ·obtain⟨y,hy⟩:∃ y,fs[k]? = some y:=⟨_,List.getElem?_eq_getElem hlt⟩
   have hget:=q40 hy
   have hky:=hK y (List.mem_of_getElem? hy)
   obtain⟨_,hye⟩:=List.getElem?_eq_some_iff.1 hy
   rw [List.drop_eq_getElem_cons hlt,hye,wi] at hc
   have hc4:=fun st=>refCheck04_c y st hky
   rw [← hc]
   apply qe []
   repeat' (first|apply And.intro|(intro h;try exact cDd)|(refine Exists.intro (k) ⟨by omega,_,hget,?_⟩)|exact⟨Tryz.call179⟩|refine cpe hc4 ?_|(refine Exists.intro (k+1) ⟨⟨by omega,by simp_all⟩,by omega,?_⟩)|exact cSd|apply qd []|refine exr ?_|refine qg ?_)
   all_goals (rw [if_neg (by assumption)];rfl)
  ·rw [List.drop_eq_nil_of_le (by omega),wi] at hc
   rw [← hc]
   apply qe []
   repeat' (first|apply And.intro|(intro h;try exact cDd)|exact cSd|apply qd []|refine exr ?_|refine qg ?_)
theorem refGood09_c (x:qr) (st:List AObj) (hK:EdB x):qn E 75 [x2 x] st fun r st'=>r=Iv (gErr x).code∧st'=st:=by
 refine jc [.a (x2 x)] (q8 _) Tryz.func75 rfl rfl (fun _=>rfl) rfl fun S0=>?_
 have hml:(x.fields.map fldA).length=x.fields.length:=by simp
 have hpos:x.fields=[]↔x.fields.length=0:=by simp
 have hc6:=fun st=>refCheck06_c x.fields st hK.keys hK.len
 have hg:(gErr x).code=if x.kind=2 then (if x.fields.length=0 then 0 else 2) else if x.kind=1∨x.kind=3 then (zl x.fields).code else 2:=by
  unfold gErr
  simp only [apply_ite ErrV.code,hpos]
  rfl
 rw [hg]
 generalize (zl x.fields).code=c at *
 apply qe [1]
 repeat' (first|apply And.intro|(intro h;try exact cDd)|exact⟨Tryz.call124⟩|refine cpe hc6 ?_|exact cSd|apply qd [1]|refine exr ?_|refine qg ?_)
 all_goals clear hc6
 all_goals refine congrArg Iv ?_
 all_goals omega
theorem refCheck09_c (b:List qr) (st:List AObj) (hB:∀ x∈b,EdB x) (hl:b.length<9223372036854775808):qn E 33 [yr b] st fun r st'=>r = .tu [Iv (eErr b).pos,Iv (eErr b).code]∧st'=st:=by
 refine jc [.a (yr b)] (pure_ii _ _) Tryz.func33 rfl rfl (fun _=>rfl) rfl fun S0=>?_
 have hml:(b.map x2).length=b.length:=by simp
 have h1:b.length<1∨40<b.length→eErr b = .num 1:=fun h=>if_pos h
 have hr:¬ (b.length<1∨40<b.length)→eErr b=yo 0 b:=fun h=>if_neg h
 apply qe []
 repeat' (first|apply And.intro|(intro h;try exact cDd)|exact cSd|apply qd []|refine exr ?_|refine qg ?_)
 ·rw [h1 (by omega)];rfl
 ·rw [h1 (by omega)];rfl
 rw [hr (by omega)]
 refine vv (X:=Nat) (fun k=>⟨[(0,.a (yr b)),(4,.i k)],[],0⟩) (fun k=>k≤b.length∧yo k (b.drop k)=yo 0 b) (fun k=>b.length - k) 0 ⟨by omega,rfl⟩ ?_ ?_
 ·skip
  repeat' (first|apply And.intro|(intro h;try exact cDd)|exact cSd|apply qd []|refine exr ?_|refine qg ?_)
 ·rintro k ⟨hk,hc⟩
  by_cases hlt:k<b.length
  ·obtain⟨y,hy⟩:∃ y,b[k]? = some y:=⟨_,List.getElem?_eq_getElem hlt⟩
   have hget:=q10 hy
   have hky:=hB y (List.mem_of_getElem? hy)
   obtain⟨_,hye⟩:=List.getElem?_eq_some_iff.1 hy
   rw [List.drop_eq_getElem_cons hlt,hye,yo] at hc
   have hc9:=fun st=>refGood09_c y st hky
   rw [← hc]
   apply qe []
   repeat' (first|apply And.intro|(intro h;try exact cDd)|(refine Exists.intro (k) ⟨by omega,_,hget,?_⟩)|exact⟨Tryz.call75⟩|refine cpe hc9 ?_|(refine Exists.intro (k+1) ⟨⟨by omega,by simp_all⟩,by omega,?_⟩)|exact cSd|apply qd []|refine exr ?_|refine qg ?_)
   all_goals (rw [if_neg (by assumption)];rfl)
  ·rw [List.drop_eq_nil_of_le (by omega),yo] at hc
   rw [← hc]
   apply qe []
   repeat' (first|apply And.intro|(intro h;try exact cDd)|exact cSd|apply qd []|refine exr ?_|refine qg ?_)
theorem atE_c (e:ErrV) (st:List AObj):qn E 15 [errA e] st fun r st'=>r=Iv e.pos∧st'=st:=by
 refine zz (q8 _) (qx Tryz.func15 rfl (Nat.le_of_ble_eq_true rfl) ?_)
 cases e with
 |no=>
  repeat' (first|apply qt|apply qj|apply qi|apply ql|apply qk|(apply vl;exact rfl;exact rfl)|(apply jr;(iterate 4 exact rfl))|(apply qf0;exact cRa)|(apply zf;exact rfl;apply pk_f;exact cRa)|(apply qh;exact rfl;apply cd_f;exact cRa)|apply q9|apply zi|(apply aops_assertNil;(iterate 4 exact rfl)))
  exact qv rfl (zw rfl) ⟨rfl,_,rfl⟩
 |num n=>
  repeat' (first|apply qt|apply qj|apply qi|apply ql|apply qk|(apply vl;exact rfl;exact rfl)|(apply jr;(iterate 4 exact rfl))|(apply qf0;exact cRa)|(apply zf;exact rfl;apply pk_f;exact cRa)|(apply qh;exact rfl;apply cd_f;exact cRa)|apply q9|apply zi|(apply qmp;(iterate 5 exact rfl)))
  exact qv rfl (zw rfl) ⟨rfl,_,rfl⟩
 |at' a n=>
  repeat' (first|apply qt|apply qj|apply qi|apply ql|apply qk|(apply vl;exact rfl;exact rfl)|(apply jr;(iterate 4 exact rfl))|(apply qhm;exact cRa)|(apply zf;exact rfl;apply pk_t;exact cRa)|(apply qh;exact rfl;apply qsc;exact cRa)|(apply xj;(iterate 4 exact rfl))|(apply j9;(iterate 3 exact rfl))|(apply wc;exact rfl;exact rfl)|(apply qip;(iterate 3 exact rfl))|apply zi|(apply qcv;(iterate 3 exact rfl)))
  exact qv rfl (zw rfl) ⟨rfl,_,rfl⟩
theorem fieldsF : (Tryz.prog.fieldsOf 130).toList = [⟨ "Key", 9, 0, false, "", "", 0⟩, ⟨ "Value", 9, 1, false, "", "", 16⟩] := by kernel_rfl
theorem eqF_run (a b c d:ByteArray) (w:World):(Op.equalIn 10000 130 (.agg #[.string a,.string b]) (.agg #[.string c,.string d])).run Tryz.prog w = .ok (a.toList == c.toList && b.toList == d.toList) w:=by
 rw [run_equalIn_agg w 9999 130 _ _ (by kernel_rfl) (by kernel_rfl),fieldsF]
 have p1:∀ (x y:ByteArray) w,(part 9 #[.string x,.string y] 0).run Tryz.prog w = .ok (.string x) w:=fun x y w=>by kernel_rfl
 have p2:∀ (x y:ByteArray) w,(part 9 #[.string x,.string y] 1).run Tryz.prog w = .ok (.string y) w:=fun x y w=>by kernel_rfl
 have hs:∀ (x y:ByteArray) w,(Op.equalIn 9999 9 (.string x) (.string y)).run Tryz.prog w = .ok (x.toList == y.toList) w:=fun x y w=>run_equalIn_string w 9998 9 x y (by kernel_rfl)
 simp only [Op.eqFields,Sem.run_bind,Sem.run_ite,p1,p2,hs,Result.andThen_ok,Sem.run_pure]
 cases hac:(a.toList == c.toList) <;> cases hbd:(b.toList == d.toList) <;> simp
theorem rel_fld {G:Gh} {f:Fld} {v:Value} (h:Rel G (fldA f) v):v = .agg #[.string ⟨f.1.toArray⟩,.string ⟨f.2.toArray⟩]:=by
 cases h with
 |ag _ vs hl h=>
  match vs,hl with
  | ⟨[x,y]⟩,_=>
   have h1:=h 0 _ x rfl rfl
   have h2:=h 1 _ y rfl rfl
   cases h1
   cases h2
   rfl
theorem neF_val (f g:Fld) (w:World):(binOp .neq 130 (.agg #[.string ⟨f.1.toArray⟩,.string ⟨f.2.toArray⟩]) (.agg #[.string ⟨g.1.toArray⟩,.string ⟨g.2.toArray⟩])).run Tryz.prog w = .ok (.bool (decide (f≠g))) w:=by
 rw [run_neq_struct,eqF_run]
 simp only [Result.andThen_ok,ByteArray.toList_eq]
 obtain⟨a,b⟩:=f
 obtain⟨c,d⟩:=g
 congr 2
 by_cases h1:a=c <;> by_cases h2:b=d <;> simp [h1,h2]
section
variable {N : Nat} {ops : Array Oper} {K : AS → Prop} {s : AS} {rest : List Oper} {d : Option Tmp} {T : TypeId} {p : String} {af : Array Edge}
theorem aq_neF {x y:Operand} {t':TypeId} {f g:Fld} {b:Bool} (hx:qf N s x=fldA f) (hy:qf N s y=fldA g) (hb:decide (f≠g)=b)
  (h:AQ E N ops rest K (s.put d (Bv b))):AQ E N ops (⟨d,.binOp .neq 130 x y t',T,p,af,none⟩::rest) K s:=by
 subst hb
 refine qbo rfl nofun fun B0 w0 G a w _ hI=>⟨.bool (decide (f≠g)),_,fun w' _=>?_,.v _,h⟩
 have h1:=rel_fld (hI.eval_of hx)
 have h2:=rel_fld (hI.eval_of hy)
 generalize a.eval = ρ at h1 h2
 have hg:(eqGuard .neq 130 x y (.agg #[.string ⟨f.1.toArray⟩,.string ⟨f.2.toArray⟩]) (.agg #[.string ⟨g.1.toArray⟩,.string ⟨g.2.toArray⟩])).run Tryz.prog w' = .ok () w':=run_eqGuard_agg w' _ _ _ _ _ _ (by kernel_rfl)
 simp [execOp,h1,h2,hg,neF_val]
end
theorem fieldsN_c (a b:List Fld) (st:List AObj) (ha:a.length<9223372036854775808):qn E 76 [zr a,zr b] st fun r st'=>r=Bv (decide (a=b))∧st'=st:=by
 refine zz (q8 _) (qx Tryz.func76 rfl (Nat.le_of_ble_eq_true rfl) ?_)
 have hma:(a.map fldA).length=a.length:=by simp
 have hmb:(b.map fldA).length=b.length:=by simp
 by_cases hl:a.length=b.length
 ·skip
  repeat' (first|apply qt|apply za|apply qj|apply qi|apply ql|apply qk|(apply q7;(iterate 3 exact rfl))|(apply qh;exact rfl;apply y4;exact cAo)|(apply jx;(iterate 4 exact rfl))|apply q9)
  refine vw (fun (k:Nat) s=>k≤a.length∧a.take k=b.take k∧StE [(0,zr a),(1,zr b),(12,Iv a.length),(13,Iv k)] st [] s) (fun k=>a.length - k) 0 ⟨by omega,by simp,qpt ⟨rfl,rfl,congrArg (fun n:Nat=>Iv (n:Int)) hma,rfl,trivial⟩ rfl⟩ ?_
  rintro k _ ⟨hk,ht,t,ext,rfl⟩
  by_cases hc:k<a.length
  ·by_cases he:a.getD k ([],[])=b.getD k ([],[])
   ·have hn:decide (a.getD k ([],[])≠b.getD k ([],[]))=false:=decide_eq_false fun h=>h he
    repeat' (first|apply qt|apply za|apply qj|apply qi|apply ql|apply qk|(apply q7;(iterate 3 exact rfl))|(apply qh;exact rfl;apply xk;exact cAo)|(apply qh;exact rfl;apply cd_f;exact cRa)|(apply jj;exact rfl;exact rfl;exact zy (by omega) (by omega))|(apply q4d;exact rfl;kernel_rfl)|apply qs6|(apply qm2;(iterate 3 exact rfl))|apply qoy|apply q9|(apply qs5 (n:=k);(iterate 5 exact rfl);exact flds_get (xs:=a) (by omega))|(apply qs5 (n:=k);(iterate 5 exact rfl);exact flds_get (xs:=b) (by omega))|(apply aq_neF;exact rfl;exact rfl;exact hn))
    exact⟨k+1,⟨by omega,qga hl hc ht he,qjx ⟨rfl,rfl,rfl,rfl,trivial⟩ rfl⟩,by omega⟩
   ·have hn:decide (a.getD k ([],[])≠b.getD k ([],[]))=true:=decide_eq_true he
    have hab:¬ a=b:=fun e=>he (by rw [e])
    repeat' (first|apply qt|apply za|apply qj|apply qi|apply ql|apply qk|(apply q7;(iterate 3 exact rfl))|(apply qh;exact rfl;apply xk;exact cAo)|(apply qh;exact rfl;apply cd_t;exact cRa)|(apply q4d;exact rfl;kernel_rfl)|apply qs6|(apply qm2;(iterate 3 exact rfl))|apply qoy|apply q9|apply zi|(apply qs5 (n:=k);(iterate 5 exact rfl);exact flds_get (xs:=a) (by omega))|(apply qs5 (n:=k);(iterate 5 exact rfl);exact flds_get (xs:=b) (by omega))|(apply aq_neF;exact rfl;exact rfl;exact hn))
    exact qv rfl (zw rfl) ⟨congrArg Bv (decide_eq_false hab).symm,qka _ _ _ _⟩
  ·have hab:a=b:=by
    have e:k=a.length:=by omega
    rw [e,List.take_length,List.take_of_length_le (by omega)] at ht
    exact ht
   repeat' (first|apply qt|apply qj|apply qi|apply qk|(apply q7;(iterate 3 exact rfl))|(apply qh;exact rfl;apply y4;exact cAo)|apply vt|apply zi)
   exact qv rfl (zw rfl) ⟨congrArg Bv (decide_eq_true hab).symm,qka _ _ _ _⟩
 ·have hab:¬ a=b:=fun e=>hl (by rw [e])
  repeat' (first|apply qt|apply qj|apply qi|apply ql|apply qk|(apply q7;(iterate 3 exact rfl))|(apply qh;exact rfl;apply xk;exact cAo)|(apply jx;(iterate 4 exact rfl))|apply zi)
  exact qv rfl (zw rfl) ⟨congrArg Bv (decide_eq_false hab).symm,_,rfl⟩
end Go.Proofs.YtejoahlpbckbeaaGreatDoor
namespace Go.Pl
open Go Go.Proofs Go.Proofs.YtejoahlpbckbeaaGreatDoor
theorem parts_more (text:qc):∀ (m:List qc) (k a f:Nat) (R:qc),(∀ s∈m,10∉s∧[32,32] <+: s)→∃ k',quy text (qxu k a (q6 m++R)) f=quy text (qxu k' (a+(q6 m).length) R) f
 | [],k,a,f,R,_=>⟨k,by simp [q6]⟩
 |s::m,k,a,f,R,h=>by
  obtain⟨h10,hp⟩:=h s (by simp)
  have e:q6 (s::m)++R=s++10::(q6 m++R):=by rw [yi];simp
  obtain⟨k',ih⟩:=parts_more text m (k+1) (a+s.length+1) f R fun x hx=>h x (by simp [hx])
  refine⟨k',?_⟩
  rw [e,lns_cons (by simp),qb1 _ h10,qfe _ h10,quy,if_neg (fun h=>h.2 hp),ih,yi]
  congr 2
  simp
  omega
end Go.Pl
namespace Go.Proofs.YtejoahlpbckbeaaGreatDoor
open Go Go.Av Go.RowKit Go.Proofs Go.Pl
theorem getD_of {l:qc} {i:Nat} {c:UInt8} (h:l[i]? = some c):l.getD i 0=c:=by simp [List.getD,h]
end Go.Proofs.YtejoahlpbckbeaaGreatDoor
namespace Go.Pl
open Go Go.Proofs Go.Proofs.YtejoahlpbckbeaaGreatDoor
theorem lns_le:∀ (n:Nat) (l:qc) (k a:Nat),l.length≤n→∀ x∈qxu k a l,x.text.length≤l.length
 |n,l,k,a,hn,x,hx=>by
  by_cases h:l=[]
  ·subst h;rw [lns_nil] at hx;simp at hx
  ·have hlt:=x7 (c:=10) h
   cases n with
   |zero=>omega
   |succ n=>
    rw [lns_cons h] at hx
    rcases List.mem_cons.1 hx with rfl|hx
    ·exact yw 10 l
    ·have:=lns_le n (past 10 l) (k+1) (a+(upto 10 l).length+1) (by omega) x hx
     omega
end Go.Pl
namespace Go.Proofs.YtejoahlpbckbeaaGreatDoor
open Go Go.Av Go.RowKit Go.Proofs Go.Pl
@[reducible] def kindsA (L : List LnV) : AV := .sl 1 (L.map fun x => Iv (qm x.text)) none
def prevK (L:List LnV):Nat→Bool
 | 0=>false
 |j+1=>match L[j]? with
  |some x=>decide (qm x.text=4∨qm x.text=3)
  |none=>false
theorem kinds_get {L:List LnV} {i:Nat} {x:LnV} (h:L[i]? = some x):(L.map fun x=>Iv (qm x.text))[i]? = some (Iv (qm x.text)):=by simp [h]
theorem lnA_get {L:List LnV} {i:Nat} {x:LnV} (h:L[i]? = some x):(L.map lnA)[i]? = some (lnA x):=by simp [h]
theorem refBehind05_c (L:List LnV) (i:Nat) (st:List AObj) (hi:i≤L.length) (hL:L.length<1000000):qn E 192 [kindsA L,Iv i] st fun r st'=>r=Bv (prevK L i)∧st'=st:=by
 refine jc [.a (kindsA L),.i i] (q8 _) Tryz.func192 rfl rfl (fun _=>rfl) rfl fun S0=>?_
 cases i with
 |zero=>
  apply qe []
  repeat' (first|apply And.intro|(intro h;try exact cDd)|exact cSd|apply qd []|refine exr ?_|refine qg ?_)
 |succ j=>
  obtain⟨x,hx⟩:∃ x,L[j]? = some x:=⟨_,List.getElem?_eq_getElem (by omega)⟩
  have hget:=kinds_get hx
  have hp:prevK L (j+1)=decide (qm x.text=4∨qm x.text=3):=by simp only [prevK,hx]
  rw [hp]
  apply qe []
  repeat' (first|apply And.intro|(intro h;try exact cDd)|(refine Exists.intro (j) ⟨by omega,_,hget,?_⟩)|exact cSd|apply qd []|refine exr ?_|refine qg ?_)
  all_goals (simp [*];done)
theorem drop_pair {L:List LnV} {k:Nat} {x:LnV} (h:L[k]? = some x):(L.drop k).map qzz=(x.text,x.ended)::(L.drop (k+1)).map qzz:=by
 obtain⟨hlt,he⟩:=List.getElem?_eq_some_iff.1 h
 rw [List.drop_eq_getElem_cons hlt,he]
 rfl
theorem refSaid05_c (L:List LnV) (i:Nat) (x:LnV) (st:List AObj) (hL:LnsB L) (hx:L[i]? = some x):qn E 138 [lnsA L,kindsA L,Iv i] st fun r st'=>r=Ss (q6v L i x)∧st'=st:=by
 refine jc [.a (lnsA L),.a (kindsA L),.i i] (q82 _) Tryz.func138 rfl rfl (fun _=>rfl) rfl fun S0=>?_
 have hLl:=hL.len
 have hil:=lt_of_getElem? hx
 have hget:=lnA_get hx
 have hml:(L.map lnA).length=L.length:=by simp
 apply qe [14]
 repeat' (first|apply And.intro|(intro h;try exact cDd)|(refine Exists.intro (i) ⟨by omega,_,hget,?_⟩)|exact cSd|apply qd [14]|refine exr ?_|refine qg ?_)
 refine vv (X:=Nat×List qc) (fun (k,acc)=>⟨[(0,.a (lnsA L)),(1,.a (kindsA L)),(7,.tp 0),(8,.i k)],[(0,some (.tip 1 9 (acc.map fun x=>Sv x)))],1⟩) (fun (k,acc)=>i+1≤k∧k≤L.length∧acc++j5 ((L.drop k).map qzz)=q6v L i x∧acc.length≤k) (fun (k,_)=>L.length - k) (i+1,[x.text]) ⟨by omega,by omega,rfl,by simp⟩ ?_ ?_
 ·skip
  repeat' (first|apply And.intro|(intro h;try exact cDd)|exact cSd|apply qd []|refine exr ?_|refine qg ?_)
  all_goals (simp;done)
 ·rintro⟨k,acc⟩ ⟨hk1,hk2,hacc,hal⟩
  have hmc:(acc.map fun x=>Sv x).length=acc.length:=by simp
  by_cases hk:k<L.length
  ·obtain⟨y,hy⟩:∃ y,L[k]? = some y:=⟨_,List.getElem?_eq_getElem hk⟩
   have hgy:=lnA_get hy
   have hky:=kinds_get hy
   rw [drop_pair hy] at hacc
   by_cases h3:qm y.text=3
   ·rw [qgp h3] at hacc
    apply qe []
    repeat' (first|apply And.intro|(intro h;try exact cDd)|(refine Exists.intro (k) ⟨by omega,_,hgy,?_⟩)|(refine Exists.intro (k) ⟨by omega,_,hky,?_⟩)|(refine Exists.intro (k+1,acc++[y.text]) ⟨⟨by omega,by omega,by simpa using hacc,by simp;omega⟩,by simp only;omega,?_⟩)|exact cSd|apply qd []|refine exr ?_|refine qg ?_)
    all_goals (simp;done)
   ·rw [qnz h3,List.append_nil] at hacc
    rw [← hacc]
    apply qe []
    repeat' (first|apply And.intro|(intro h;try exact cDd)|(refine Exists.intro (k) ⟨by omega,_,hky,?_⟩)|exact cSd|apply qd []|refine exr ?_|refine qg ?_)
  ·rw [List.drop_eq_nil_of_le (by omega),List.map_nil,j5,List.append_nil] at hacc
   rw [← hacc]
   apply qe []
   repeat' (first|apply And.intro|(intro h;try exact cDd)|exact cSd|apply qd []|refine exr ?_|refine qg ?_)
theorem refWrong05_c (L:List LnV) (i:Nat) (x:LnV) (n:Nat) (rec:Int) (st:List AObj) (hL:LnsB L) (hx:L[i]? = some x):qn E 137 [lnsA L,kindsA L,Iv i,Iv n,Iv rec] st fun r st'=>r=Iv (jf (prevK L i) x.text x.ended ((L.drop (i+1)).map qzz) n rec)∧st'=st:=by
 refine jc [.a (lnsA L),.a (kindsA L),.i i,.i n,.i rec] (q8 _) Tryz.func137 rfl rfl (fun _=>rfl) rfl fun S0=>?_
 have hLl:=hL.len
 have hil:=lt_of_getElem? hx
 have hgy:=lnA_get hx
 have hky:=kinds_get hx
 have hbe:=fun st=>refBehind05_c L i st (by omega) (by omega)
 have hsa:=fun st=>refSaid05_c L i x st hL hx
 have hun:=fun st=>refUnfoldE_c (q6v L i x) st (hL.said hx)
 unfold refUnfoldA at hun
 unfold jf
 have hsd:x.text::j5 ((L.drop (i+1)).map qzz)=q6v L i x:=rfl
 rw [hsd]
 generalize prevK L i=pv at *
 generalize q6v L i x=sl at *
 generalize (ja sl).2=u at *
 obtain⟨xn,xa,xt,xe⟩:=x
 dsimp only at *
 apply qe []
 repeat' (first|apply And.intro|(intro h;try exact cDd)|(refine Exists.intro (i) ⟨by omega,_,hky,?_⟩)|(refine Exists.intro (i) ⟨by omega,_,hgy,?_⟩)|exact⟨Tryz.call192⟩|refine cpe hbe ?_|exact⟨Tryz.call138⟩|refine cpe hsa ?_|exact⟨Tryz.call115⟩|refine cpe hun ?_|exact cSd|apply qd []|refine exr ?_|refine qg ?_)
 all_goals clear hbe hsa hun hgy hky
 all_goals (simp_all <;> omega)
def refParseA (text:qc):AV:=if 60000<text.length then .tu [wp [],Iv (-9),Iv 1] else match (jw text).1 with
 |some e=>.tu [wp [],Iv e.1,Iv e.2]
 |none=>.tu [wp (jw text).2,Iv (-9),Iv 0]
theorem refParseA_pure (text:qc):Pure (refParseA text):=by
 unfold refParseA
 split
 ·exact qu3 (qbg _) (q8 _) (q8 _)
 ·split
  ·exact qu3 (qbg _) (q8 _) (q8 _)
  ·exact qu3 (qbg _) (q8 _) (q8 _)
theorem prevK_succ {L:List LnV} {k:Nat} {x:LnV} (h:L[k]? = some x):prevK L (k+1)=decide (qm x.text=4∨qm x.text=3):=by simp only [prevK,h]
set_option maxHeartbeats 2000000 in
theorem refParse05_c (text:qc) (st:List AObj) (hl:text.length<1000000):qn E 89 [Sv text] st fun r st'=>r=refParseA text∧st'=st:=by
 refine jc [.s text] (refParseA_pure text) Tryz.func89 rfl rfl (fun _=>rfl) rfl fun S0=>?_
 by_cases hbig:60000<text.length
 ·have e:refParseA text = .tu [wp [],Iv (-9),Iv 1]:=if_pos hbig
  rw [e]
  apply qe []
  repeat' (first|apply And.intro|(intro h;try exact cDd)|exact cSd|apply qd []|refine exr ?_|refine qg ?_)
 have hRA:refParseA text=match (jw text).1 with
  |some e=>.tu [wp [],Iv e.1,Iv e.2]
  |none=>.tu [wp (jw text).2,Iv (-9),Iv 0]:=if_neg hbig
 rw [hRA]
 clear hRA
 obtain⟨L,hL⟩:∃ L,L=lns text:=⟨_,rfl⟩
 have hLl:L.length≤text.length:=by rw [hL];exact lns_count _ text 0 0 (Nat.le_refl _)
 have hLB:LnsB L:=⟨by omega,fun x hx=>by have:=lns_le _ text 0 0 (Nat.le_refl _) x (by rw [hL] at hx;exact hx);omega⟩
 have hrun:refL 0 ((L.drop 0).map qzz) (prevK L 0) ⟨2,[],[]⟩ 0 []=jw text:=by
  rw [List.drop_zero,hL,lns_pairs]
  exact qbk text
 have hml:(L.map lnA).length=L.length:=by simp
 have hspl:∀ st,qn E 87 [Sv text] st fun r st'=>r=lnsA L∧st'=st:=fun st=>by rw [hL];exact refSplit_c text st (by omega)
 clear hL
 generalize jw text=PF at hrun
 apply qe []
 repeat' (first|apply And.intro|(intro h;try exact cDd)|exact⟨Tryz.call87⟩|refine cpe hspl ?_|exact cSd|apply qd []|refine exr ?_|refine qg ?_)
 refine vv (X:=Nat) (fun k=>⟨[(5,.a (lnsA L)),(6,.tp 0),(7,.i k)],[(0,some (.tip 1 3 ((L.take k).map fun x=>Iv (qm x.text))))],1⟩) (fun k=>k≤L.length) (fun k=>L.length - k) 0 (by omega) ?_ ?_
 ·skip
  repeat' (first|apply And.intro|(intro h;try exact cDd)|exact cSd|apply qd []|refine exr ?_|refine qg ?_)
 ·intro k hk
  by_cases hkl:k<L.length
  ·obtain⟨x,hx⟩:∃ x,L[k]? = some x:=⟨_,List.getElem?_eq_getElem hkl⟩
   have hgx:=lnA_get hx
   have hxl:=hLB.val x (List.mem_of_getElem? hx)
   have hkd:=fun st=>refKind_c x.text st (by omega)
   apply qe []
   repeat' (first|apply And.intro|(intro h;try exact cDd)|(refine Exists.intro _ ⟨rfl,_,hgx,?_⟩)|exact⟨Tryz.call136⟩|refine cpe hkd ?_|(refine Exists.intro (k+1) ⟨by omega,by omega,?_⟩)|exact cSd|apply qd []|refine exr ?_|refine qg ?_)
   rw [List.take_add_one,hx]
   simp
  ·have e:L.take k=L:=List.take_of_length_le (by omega)
   apply qe []
   repeat' (first|apply And.intro|(intro h;try exact cDd)|exact cSd|apply qd []|refine exr ?_|refine qg ?_)
   refine vv (X:=Nat×qu×Int×List qu) (fun (k,⟨nk,nr,nf⟩,rec,out)=>⟨[(5,.a (lnsA L)),(6,.a (kindsA L)),(8,.tp 0),(9,.bx 1 0),(10,.i rec),(11,.i k)],
     [(0,some (.tip 3 112 (out.map wn))),(1,some (.cells 112 [.i nk,.s nr,.tp 2])),(2,some (.tip 2 130 (nf.map fldA)))],3⟩)
    (fun (k,now,rec,out)=>k≤L.length∧refL k ((L.drop k).map qzz) (prevK L k) now rec out=PF∧0≤rec∧rec≤k∧out.length≤2 * k∧now.fields.length≤k∧now.raw.length≤200000 * k) (fun x=>L.length - x.1) (0,⟨2,[],[]⟩,0,[])
    ⟨by omega,hrun,by omega,by omega,by simp,by simp,by simp⟩ ?_ ?_
   ·skip
    repeat' (first|apply And.intro|(intro h;try exact cDd)|(refine qg ?_;rw [e])|exact cSd|apply qd []|refine exr ?_|refine qg ?_)
   ·rintro⟨j,⟨nk,nr,nf⟩,rec,out⟩ ⟨hj,hR,hr0,hr1,hol,hfl,hrl⟩
    simp only at hfl hrl
    by_cases hjl:j<L.length
    ·obtain⟨x,hx⟩:∃ x,L[j]? = some x:=⟨_,List.getElem?_eq_getElem hjl⟩
     have hgx:=lnA_get hx
     have hkx:=kinds_get hx
     have hxl:=hLB.val x (List.mem_of_getElem? hx)
     have hwr:∀ st,qn E 137 [lnsA L,kindsA L,Iv j,Iv ((nf.map fldA).length:Nat),Iv rec] st fun r st'=>r=Iv (jf (prevK L j) x.text x.ended ((L.drop (j+1)).map qzz) nf.length rec)∧st'=st:=fun st=>by rw [List.length_map];exact refWrong05_c L j x nf.length rec st hLB hx
     have hsa:=fun st=>refSaid05_c L j x st hLB hx
     have hun:=fun st=>refUnfoldE_c (q6v L j x) st (hLB.said hx)
     unfold refUnfoldA at hun
     have hpv:=prevK_succ hx
     have hsd:x.text::j5 ((L.drop (j+1)).map qzz)=q6v L j x:=rfl
     rw [drop_pair hx,refL,hsd] at hR
     simp only at hR
     by_cases h1:qm x.text=1
     ·apply qe []
      repeat' (first|apply And.intro|(intro h;try exact cDd)|(refine Exists.intro _ ⟨rfl,_,hgx,?_⟩)|(refine Exists.intro _ ⟨rfl,_,hkx,?_⟩)|exact⟨Tryz.call137⟩|refine cpe hwr ?_|exact⟨Tryz.call138⟩|refine cpe hsa ?_|exact⟨Tryz.call115⟩|refine cpe hun ?_|(rw [if_pos (by assumption)] at hR;rw [← hR];exact q9q _)|(refine Exists.intro (j+1,⟨2,[],[]⟩,rec,outR ⟨nk,nr,nf⟩ out++[⟨1,x.text++[10],[]⟩]) ⟨?_,by simp only;omega,?_⟩)|exact cSd|apply qd []|refine exr ?_|refine qg ?_)
      all_goals first|grind [outR]|(simp [outR,wn, *] at hR ⊢;done)|(simp [outR,wn, *] at hR ⊢;omega)
     ·by_cases h4:qm x.text=4
      ·apply qe []
       repeat' (first|apply And.intro|(intro h;try exact cDd)|(refine Exists.intro _ ⟨rfl,_,hgx,?_⟩)|(refine Exists.intro _ ⟨rfl,_,hkx,?_⟩)|exact⟨Tryz.call137⟩|refine cpe hwr ?_|exact⟨Tryz.call138⟩|refine cpe hsa ?_|exact⟨Tryz.call115⟩|refine cpe hun ?_|(rw [if_pos (by assumption)] at hR;rw [← hR];exact q9q _)|(refine Exists.intro (j+1,⟨3,nr++x.text++[10],nf++[(ja (q6v L j x)).1]⟩,if nk=2 then rec+1 else rec,out) ⟨?_,by simp only;omega,?_⟩)|exact cSd|apply qd []|refine exr ?_|refine qg ?_)
       all_goals first|grind [outR]|(simp [outR,wn, *] at hR ⊢;done)|(simp [outR,wn, *] at hR ⊢;omega)
      ·apply qe []
       repeat' (first|apply And.intro|(intro h;try exact cDd)|(refine Exists.intro _ ⟨rfl,_,hgx,?_⟩)|(refine Exists.intro _ ⟨rfl,_,hkx,?_⟩)|exact⟨Tryz.call137⟩|refine cpe hwr ?_|exact⟨Tryz.call138⟩|refine cpe hsa ?_|exact⟨Tryz.call115⟩|refine cpe hun ?_|(rw [if_pos (by assumption)] at hR;rw [← hR];exact q9q _)|(refine Exists.intro (j+1,⟨nk,nr++x.text++[10],nf⟩,rec,out) ⟨?_,by simp only;omega,?_⟩)|exact cSd|apply qd []|refine exr ?_|refine qg ?_)
       all_goals first|grind [outR]|(simp [outR,wn, *] at hR ⊢;done)|(simp [outR,wn, *] at hR ⊢;omega)
    ·have e:(L.drop j).map qzz=[]:=by rw [List.drop_eq_nil_of_le (by omega)];rfl
     rw [e,refL] at hR
     rw [← hR]
     apply qe []
     repeat' (first|apply And.intro|(intro h;try exact cDd)|exact cSd|apply qd []|refine exr ?_|refine qg ?_)
     all_goals first|grind [outR]|(simp [outR,wn, *] at hR ⊢;done)|(simp [outR,wn, *] at hR ⊢;omega)
theorem refParseA_eq (text:qc):∃ its,refParseA text = .tu [wp its,Iv (zx text).pos,Iv (zx text).code]:=by
 unfold refParseA zx
 split
 ·exact⟨[],rfl⟩
 ·rcases (jw text).1 with _ | ⟨a,n⟩
  ·exact⟨_,rfl⟩
  ·exact⟨[],rfl⟩
theorem refParse3 (text:qc) (hl:text.length<1000000):∃ its p n,(∀ st,qn E 89 [Sv text] st fun r st'=>r = .tu [wp its,Iv p,Iv n]∧st'=st)∧p=(zx text).pos∧n=(zx text).code∧(n=0↔zx text = .no):=by
 obtain⟨its,hits⟩:=refParseA_eq text
 refine⟨its,_,_,fun st=>by rw [← hits];exact refParse05_c text st hl,rfl,rfl,?_⟩
 cases hpe:zx text with
 |no=>simp [ErrV.code]
 |num n=>have:=qz0 hpe;simp [ErrV.code];omega
 |at' a n=>have:=q2y hpe;simp [ErrV.code];omega
theorem eErr_pc (x:List qr):∃ p n,(eErr x).pos=p∧(eErr x).code=n∧(n=0↔eErr x = .no):=⟨_,_,rfl,rfl,q1y x⟩
end Go.Proofs.YtejoahlpbckbeaaGreatDoor
namespace Go.Pl
open Go Go.Proofs
theorem cntF_le (es:List EntV):cntF es≤es.length:=List.countP_le_length
end Go.Pl
namespace Go.Proofs.YtejoahlpbckbeaaGreatDoor
open Go Go.Av Go.RowKit Go.Proofs Go.Pl
theorem pure_tu4 {a b c d:AV} (h1:Pure a) (h2:Pure b) (h3:Pure c) (h4:Pure d):Pure (.tu [a,b,c,d]):=qes fun z hz=>by
 simp only [List.mem_cons,List.not_mem_nil,or_false] at hz
 rcases hz with rfl|rfl|rfl|rfl
 ·exact h1
 ·exact h2
 ·exact h3
 ·exact h4
@[reducible] def entsA (es : List EntV) : AV := .sl 4 (es.map entA) none
@[reducible] def rlistA (l : qp) : AV := .ag [entsA l.ents, Iv l.next]
theorem entsA_pure (es:List EntV):Pure (entsA es):=qa7 fun x hx=>by
 obtain⟨f,_,rfl⟩:=List.mem_map.1 hx
 exact qze f
theorem rlistA_pure (l:qp):Pure (rlistA l):=qd4 fun y hy=>by
 simp only [AV.cells,List.mem_cons,List.not_mem_nil,or_false] at hy
 rcases hy with rfl|rfl
 ·exact entsA_pure _
 ·exact q8 _
def ofR (text:qc):qp:=if zx text = .no then ofF (itsE text) else⟨[],0,0⟩
theorem refParse_no {text:qc} (h:zx text = .no):refParseA text = .tu [wp (itsE text),Iv (-9),Iv 0]:=by
 unfold refParseA itsE
 unfold zx at h
 split
 ·rename_i hb
  rw [if_pos hb] at h
  simp at h
 ·rename_i hb
  rw [if_neg hb] at h
  rcases hp:(jw text).1 with _ | ⟨a,n⟩
  ·rfl
  ·rw [hp] at h
   simp at h
theorem refOf07_c (text:qc) (st:List AObj) (hl:text.length<1000000):qn E 47 [Sv text] st fun r st'=>r = .tu [rlistA (ofR text),Iv (zx text).pos,Iv (zx text).code]∧st'=st:=by
 refine jc [.s text] (qu3 (rlistA_pure _) (q8 _) (q8 _)) Tryz.func47 rfl rfl (fun _=>rfl) rfl fun S0=>?_
 unfold ofR
 by_cases hno:zx text = .no
 ·have hp:=fun st=>refParse05_c text st hl
  rw [refParse_no hno] at hp
  have hil:=qt8 text
  rw [hno,if_pos rfl]
  generalize itsE text=its at hp hil
  have hmi:(its.map wn).length=its.length:=by simp
  apply qe []
  repeat' (first|apply And.intro|(intro h;try exact cDd)|exact⟨Tryz.call89⟩|refine cpe hp ?_|exact cSd|apply qd []|refine exr ?_|refine qg ?_)
  refine vv (X:=Nat×qp) (fun (k,l)=>⟨[(2,.bx 0 0),(5,.a (wp its)),(6,.i (-9)),(8,.bx 1 0),(9,.i k)],[(0,some (.cells 89 [.a zv,.i 0])),(1,some (.cells 89 [.tp 2,.i l.next])),(2,some (.tip 4 167 (l.ents.map entA)))],3⟩)
   (fun (k,l)=>k≤its.length∧l.ents.length=k∧(1≤l.next∧l.next≤k+1)∧(its.drop k).foldl ve l=ofF its) (fun (k,l)=>its.length - k) (0,⟨[],1,0⟩) ⟨by omega,rfl,⟨by decide,by decide⟩,rfl⟩ ?_ ?_
  ·skip
   repeat' (first|apply And.intro|(intro h;try exact cDd)|exact cSd|apply qd []|refine exr ?_|refine qg ?_)
   all_goals (simp;done)
  ·rintro⟨k,l⟩ ⟨hk,hlk,hnx,hrun⟩
   by_cases hkn:k<its.length
   ·have hx:its[k]? = some its[k]:=List.getElem?_eq_getElem hkn
    have hxm:(its.map wn)[k]? = some (wn its[k]):=by rw [List.getElem?_map,hx];rfl
    rw [List.drop_eq_getElem_cons hkn,List.foldl_cons] at hrun
    have hml:(l.ents.map entA).length=l.ents.length:=by simp
    generalize its[k]=x at hx hxm hrun
    by_cases hk3:x.kind=3
    ·have e:ve l x=⟨l.ents++[⟨x,l.next⟩],l.next+1,l.many+1⟩:=if_pos hk3
     rw [e] at hrun
     apply qe []
     repeat' (first|apply And.intro|(intro h;try exact cDd)|(refine Exists.intro (k) ⟨by omega,_,hxm,?_⟩)|(refine Exists.intro (k+1,⟨l.ents++[⟨x,l.next⟩],l.next+1,l.many+1⟩) ⟨⟨by omega,by simp [hlk],by simp only;omega,hrun⟩,by simp only;omega,?_⟩)|exact cSd|apply qd []|refine exr ?_|refine qg ?_)
     all_goals (simp;done)
    ·have e:ve l x=⟨l.ents++[⟨x,0⟩],l.next,l.many⟩:=if_neg hk3
     rw [e] at hrun
     apply qe []
     repeat' (first|apply And.intro|(intro h;try exact cDd)|(refine Exists.intro (k) ⟨by omega,_,hxm,?_⟩)|(refine Exists.intro (k+1,⟨l.ents++[⟨x,0⟩],l.next,l.many⟩) ⟨⟨by omega,by simp [hlk],by simp only;omega,hrun⟩,by simp only;omega,?_⟩)|exact cSd|apply qd []|refine exr ?_|refine qg ?_)
     all_goals (simp;done)
   ·have hkn:k=its.length:=by omega
    subst hkn
    rw [List.drop_length] at hrun
    have e:ofF its=l:=hrun.symm
    rw [e]
    apply qe []
    repeat' (first|apply And.intro|(intro h;try exact cDd)|exact cSd|apply qd []|refine exr ?_|refine qg ?_)
 ·obtain⟨its,p,n,hpa,hp,hn,hn0⟩:=refParse3 text hl
  have hz:n≠0:=fun h=>hno (hn0.1 h)
  rw [if_neg hno,← hp,← hn]
  apply qe []
  repeat' (first|apply And.intro|(intro h;try exact cDd)|exact⟨Tryz.call89⟩|refine cpe hpa ?_|exact cSd|apply qd []|refine exr ?_|refine qg ?_)
theorem refFind07_c (l:qp) (id:Int) (st:List AObj) (hl:l.ents.length<1000000):qn E 233 [rlistA l,Iv id] st fun r st'=>r=Iv (atF l id)∧st'=st:=by
 refine jc [.a (rlistA l),.i id] (q8 _) Tryz.func233 rfl rfl (fun _=>rfl) rfl fun S0=>?_
 unfold atF
 obtain⟨es,nx,mn⟩:=l
 dsimp only at hl ⊢
 have hmi:(es.map entA).length=es.length:=by simp
 apply qe []
 repeat' (first|apply And.intro|(intro h;try exact cDd)|exact cSd|apply qd []|refine exr ?_|refine qg ?_)
 refine vv (X:=Nat) (fun k=>⟨[(1,.i id),(2,.a (.pp [entsA es,Iv nx])),(5,.i k)],[],0⟩) (fun k=>k≤es.length∧(0<id→xi id k (es.drop k)=xi id 0 es)) (fun k=>es.length - k) 0 ⟨by omega,by simp⟩ ?_ ?_
 ·skip
  repeat' (first|apply And.intro|(intro h;try exact cDd)|exact cSd|apply qd []|refine exr ?_|refine qg ?_)
  all_goals (simp;done)
 ·rintro k ⟨hk,hrun⟩
  by_cases h1:id<1
  ·rw [if_pos h1]
   apply qe []
   repeat' (first|apply And.intro|(intro h;try exact cDd)|exact cSd|apply qd []|refine exr ?_|refine qg ?_)
  ·rw [if_neg h1]
   have hrun:=hrun (by omega)
   by_cases hkn:k<es.length
   ·have hx:es[k]? = some es[k]:=List.getElem?_eq_getElem hkn
    have hxm:(es.map entA)[k]? = some (entA es[k]):=by rw [List.getElem?_map,hx];rfl
    rw [List.drop_eq_getElem_cons hkn,xi] at hrun
    generalize es[k]=e at hx hxm hrun
    by_cases hid:e.id=id
    ·rw [if_pos hid] at hrun
     rw [← hrun]
     apply qe []
     repeat' (first|apply And.intro|(intro h;try exact cDd)|(refine Exists.intro (k) ⟨by omega,_,hxm,?_⟩)|exact cSd|apply qd []|refine exr ?_|refine qg ?_)
    ·rw [if_neg hid] at hrun
     apply qe []
     repeat' (first|apply And.intro|(intro h;try exact cDd)|(refine Exists.intro (k) ⟨by omega,_,hxm,?_⟩)|(refine Exists.intro (k+1) ⟨⟨by omega,fun _=>hrun⟩,by omega,?_⟩)|exact cSd|apply qd []|refine exr ?_|refine qg ?_)
   ·have hkn:k=es.length:=by omega
    subst hkn
    rw [List.drop_length,xi] at hrun
    rw [← hrun]
    apply qe []
    repeat' (first|apply And.intro|(intro h;try exact cDd)|exact cSd|apply qd []|refine exr ?_|refine qg ?_)
theorem refLen07_c (l:qp) (st:List AObj) (hl:l.ents.length<1000000):qn E 235 [rlistA l] st fun r st'=>r=Iv (cntF l.ents)∧st'=st:=by
 refine jc [.a (rlistA l)] (q8 _) Tryz.func235 rfl rfl (fun _=>rfl) rfl fun S0=>?_
 obtain⟨es,nx,mn⟩:=l
 dsimp only at hl ⊢
 have hmi:(es.map entA).length=es.length:=by simp
 apply qe []
 repeat' (first|apply And.intro|(intro h;try exact cDd)|exact cSd|apply qd []|refine exr ?_|refine qg ?_)
 refine vv (X:=Nat) (fun k=>⟨[(1,.a (.pp [entsA es,Iv nx])),(3,.i (cntF (es.take k):Nat)),(4,.i k)],[],0⟩) (fun k=>k≤es.length) (fun k=>es.length - k) 0 (by omega) ?_ ?_
 ·skip
  repeat' (first|apply And.intro|(intro h;try exact cDd)|exact cSd|apply qd []|refine exr ?_|refine qg ?_)
  all_goals (simp [cntF];done)
 ·rintro k hk
  by_cases hkn:k<es.length
  ·have hx:es[k]? = some es[k]:=List.getElem?_eq_getElem hkn
   have hxm:(es.map entA)[k]? = some (entA es[k]):=by rw [List.getElem?_map,hx];rfl
   have htk:es.take (k+1)=es.take k++[es[k]]:=by rw [List.take_add_one,hx];rfl
   have hct:=qqd (es.take k) es[k]
   have hcl:=cntF_le (es.take k)
   have hcl2:(es.take k).length≤k:=by simp;omega
   rw [← htk] at hct
   generalize es[k]=e at hx hxm hct
   by_cases h0:0<e.id
   ·rw [if_pos h0] at hct
    apply qe []
    repeat' (first|apply And.intro|(intro h;try exact cDd)|(refine Exists.intro (k) ⟨by omega,_,hxm,?_⟩)|(refine Exists.intro (k+1) ⟨by omega,by omega,?_⟩)|exact cSd|apply qd []|refine exr ?_|refine qg ?_)
    all_goals (simp [hct];done)
   ·rw [if_neg h0] at hct
    apply qe []
    repeat' (first|apply And.intro|(intro h;try exact cDd)|(refine Exists.intro (k) ⟨by omega,_,hxm,?_⟩)|(refine Exists.intro (k+1) ⟨by omega,by omega,?_⟩)|exact cSd|apply qd []|refine exr ?_|refine qg ?_)
    all_goals (simp [hct];done)
  ·have hkn:k=es.length:=by omega
   subst hkn
   rw [List.take_length]
   apply qe []
   repeat' (first|apply And.intro|(intro h;try exact cDd)|exact cSd|apply qd []|refine exr ?_|refine qg ?_)
theorem refItem06_c (fs:List Fld) (st:List AObj) (h:q6m fs):qn E 234 [zr fs] st fun r st'=>r=wn ⟨3,js fs,fs⟩∧st'=st:=by
 refine jc [.a (zr fs)] (qd4 (qgk _)) Tryz.func234 rfl rfl (fun _=>rfl) rfl fun S0=>?_
 have h1:=fun st=>refFoldE_c fs st h
 apply qe []
 repeat' (first|apply And.intro|(intro h;try exact cDd)|exact⟨Tryz.call82⟩|refine cpe h1 ?_|exact cSd|apply qd []|refine exr ?_|refine qg ?_)
end Go.Proofs.YtejoahlpbckbeaaGreatDoor
namespace Go.Pl
open Go Go.Proofs Go.Av
def dlF (i:Nat) (es:List EntV) (k:Nat):List EntV:=(es.take k).take i++(es.take k).drop (i+1)
theorem dlF_eq {i:Nat} {es:List EntV} {k:Nat} {e:EntV} (h:es[k]? = some e):dlF i es (k+1)=dlF i es k++if k=i then [] else [e]:=by
 have hk:=lt_of_getElem? h
 have hl:(es.take k).length=k:=by simp;omega
 unfold dlF
 rw [List.take_add_one,h]
 simp only [Option.toList_some]
 rw [List.take_append,List.drop_append,hl]
 by_cases hki:k=i
 ·subst hki
  rw [if_pos rfl]
  have e1:(es.take k).drop (k+1)=[]:=List.drop_eq_nil_of_le (by omega)
  simp [e1]
 ·rw [if_neg hki]
  by_cases hlt:k<i
  ·have e1:(es.take k).drop (i+1)=[]:=List.drop_eq_nil_of_le (by omega)
   obtain⟨d,hd⟩:∃ d,i - k=d+1:=⟨i - k - 1,by omega⟩
   have hd2:i+1 - k=d+1+1:=by omega
   rw [e1,hd,hd2]
   simp
  ·have hd:i - k=0:=by omega
   have hd2:i+1 - k=0:=by omega
   rw [hd,hd2]
   simp
def inF (j:Nat) (x:EntV) (es:List EntV) (k:Nat):List EntV:=(es.take k).take j++if j≤k then x::(es.take k).drop j else []
theorem inF_eq {j:Nat} {x:EntV} {es:List EntV} {k:Nat} {e:EntV} (h:es[k]? = some e):inF j x es (k+1)=inF j x es k++e::if j=k+1 then [x] else []:=by
 have hk:=lt_of_getElem? h
 have hl:(es.take k).length=k:=by simp;omega
 unfold inF
 rw [List.take_add_one,h]
 simp only [Option.toList_some]
 rw [List.take_append,List.drop_append,hl]
 by_cases hjk:j=k+1
 ·subst hjk
  have e1:(es.take k).drop (k+1)=[]:=List.drop_eq_nil_of_le (by omega)
  have e2:k+1 - k=1:=by omega
  rw [if_pos (Nat.le_refl _),if_pos rfl,if_neg (by omega),e1,e2]
  simp
 ·rw [if_neg hjk]
  by_cases hlt:j≤k
  ·have hd:j - k=0:=by omega
   rw [if_pos (by omega),if_pos hlt,hd]
   simp
  ·obtain⟨d,hd⟩:∃ d,j - k=d+1:=⟨j - k - 1,by omega⟩
   rw [if_neg (by omega),if_neg hlt,hd]
   simp
end Go.Pl
namespace Go.Proofs.YtejoahlpbckbeaaGreatDoor
open Go Go.Av Go.RowKit Go.Proofs Go.Pl
def rlR (l:qp) (e:ErrV):AV:=.tu [rlistA l,Iv e.pos,Iv e.code]
theorem rlR_pure (l:qp) (e:ErrV):Pure (rlR l e):=qu3 (rlistA_pure _) (q8 _) (q8 _)
theorem checkFs_pc (fs:List Fld) (h:zl fs≠.no):∃ p n,(zl fs).pos=p∧(zl fs).code=n∧n≠0:=⟨_,_,rfl,rfl,fun h'=>h ((qiz fs).1 h')⟩
theorem refRepl07_c (l:qp) (id:Int) (fs:List Fld) (st:List AObj) (hl:l.ents.length<1000000) (hK:KeyB fs) (hfl:fs.length<1000000):qn E 195 [rlistA l,Iv id,zr fs] st fun r st'=>r=rlR (v8 l id fs).2 (v8 l id fs).1∧st'=st:=by
 refine jc [.a (rlistA l),.i id,.a (zr fs)] (rlR_pure _ _) Tryz.func195 rfl rfl (fun _=>rfl) rfl fun S0=>?_
 have h1:=fun st=>refFind07_c l id st hl
 have hmi:(l.ents.map entA).length=l.ents.length:=by simp
 have h2:=fun st=>refCheck06_c fs st hK (by omega)
 unfold v8 rlR
 rcases qgv l id with h | ⟨i,e,h,he,hid,hid1⟩
 ·rw [h] at h1 ⊢
  rw [if_pos (by decide)]
  apply qe []
  repeat' (first|apply And.intro|(intro h;try exact cDd)|exact⟨Tryz.call233⟩|refine cpe h1 ?_|exact cSd|apply qd []|refine exr ?_|refine qg ?_)
 ·rw [h] at h1 ⊢
  rw [if_neg (by omega)]
  have hil:=lt_of_getElem? he
  by_cases hc:zl fs = .no
  ·rw [hc] at h2
   obtain⟨_,g3,g4⟩:=qck hc
   have h3:=fun st=>refItem06_c fs st (q19 g3 g4)
   rw [if_pos hc]
   unfold qeh wb
   rw [if_pos hc,Int.toNat_natCast,he]
   simp only
   have hx':∀ k e',l.ents[k]? = some e'→(l.ents.set i ⟨⟨3,js fs,fs⟩,e.id⟩).take (k+1)=(l.ents.set i ⟨⟨3,js fs,fs⟩,e.id⟩).take k++[if k=i then⟨⟨3,js fs,fs⟩,e.id⟩ else e']:=fun k e' h=>by
    have hk:=lt_of_getElem? h
    rw [List.take_add_one]
    congr 1
    by_cases hki:k=i
    ·subst hki
     rw [if_pos rfl,List.getElem?_set_self hk]
     try rfl
    ·rw [if_neg hki,List.getElem?_set_ne (fun h=>hki h.symm),h]
     rfl
   have hsl:(l.ents.set i ⟨⟨3,js fs,fs⟩,e.id⟩).length=l.ents.length:=by simp
   generalize l.ents.set i ⟨⟨3,js fs,fs⟩,e.id⟩=es' at hx' hsl
   apply qe []
   repeat' (first|apply And.intro|(intro h;try exact cDd)|exact⟨Tryz.call233⟩|refine cpe h1 ?_|exact⟨Tryz.call124⟩|refine cpe h2 ?_|exact cSd|apply qd []|refine exr ?_|refine qg ?_)
   refine vv (X:=Nat) (fun k=>⟨[(2,.a (zr fs)),(3,.a (.pp [entsA l.ents,Iv l.next])),(6,.bx 0 0),(9,.i i),(12,.bx 1 0),(13,.i k)],[(0,some (.cells 89 [.a zv,.i 0])),(1,some (.cells 89 [.tp 2,.i l.next])),(2,some (.tip 4 167 ((es'.take k).map entA)))],3⟩)
    (fun k=>k≤l.ents.length) (fun k=>l.ents.length - k) 0 (by omega) ?_ ?_
   ·skip
    repeat' (first|apply And.intro|(intro h;try exact cDd)|exact cSd|apply qd []|refine exr ?_|refine qg ?_)
    all_goals first|rfl|(simp;done)
   ·rintro k hk
    by_cases hkn:k<l.ents.length
    ·have hx:l.ents[k]? = some l.ents[k]:=List.getElem?_eq_getElem hkn
     have hxm:(l.ents.map entA)[k]? = some (entA l.ents[k]):=by rw [List.getElem?_map,hx];rfl
     have htk:=hx' k _ hx
     have htl:((es'.take k).map entA).length≤k:=by simp;omega
     by_cases hki:k=i
     ·have hee:l.ents[k]=e:=by
       have h1:=he
       rw [← hki,hx] at h1
       simpa using h1
      rw [hee] at hx hxm
      rw [if_pos hki] at htk
      apply qe []
      repeat' (first|apply And.intro|(intro h;try exact cDd)|(refine Exists.intro (k) ⟨by omega,_,hxm,?_⟩)|exact⟨Tryz.call234⟩|refine cpe h3 ?_|(refine Exists.intro (k+1) ⟨by omega,by omega,?_⟩)|exact absurd hki (by omega)|exact cSd|apply qd []|refine exr ?_|refine qg ?_)
      all_goals first|(rw [htk];simp;done)|omega|(simp;omega)
     ·rw [if_neg hki] at htk
      generalize l.ents[k]=e' at hx hxm htk
      apply qe []
      repeat' (first|apply And.intro|(intro h;try exact cDd)|(refine Exists.intro (k) ⟨by omega,_,hxm,?_⟩)|(refine Exists.intro (k+1) ⟨by omega,by omega,?_⟩)|exact absurd (by omega) hki|exact cSd|apply qd []|refine exr ?_|refine qg ?_)
      all_goals first|(rw [htk];simp;done)|omega|(simp;omega)
    ·have hkn:k=l.ents.length:=by omega
     subst hkn
     rw [List.take_of_length_le (by omega)]
     apply qe []
     repeat' (first|apply And.intro|(intro h;try exact cDd)|exact cSd|apply qd []|refine exr ?_|refine qg ?_)
  ·obtain⟨p,n,hp,hn,hn0⟩:=checkFs_pc fs hc
   rw [hp,hn] at h2
   rw [if_neg hc,hp,hn]
   apply qe []
   repeat' (first|apply And.intro|(intro h;try exact cDd)|exact⟨Tryz.call233⟩|refine cpe h1 ?_|exact⟨Tryz.call124⟩|refine cpe h2 ?_|exact cSd|apply qd []|refine exr ?_|refine qg ?_)
theorem refDel07_c (l:qp) (id:Int) (st:List AObj) (hl:l.ents.length<1000000):qn E 196 [rlistA l,Iv id] st fun r st'=>r = .tu [rlistA (delF l id).2,Iv (delF l id).1.code]∧st'=st:=by
 refine jc [.a (rlistA l),.i id] (w6 (rlistA_pure _) (q8 _)) Tryz.func196 rfl rfl (fun _=>rfl) rfl fun S0=>?_
 have h1:=fun st=>refFind07_c l id st hl
 have hmi:(l.ents.map entA).length=l.ents.length:=by simp
 unfold delF
 rcases qgv l id with h | ⟨i,e,h,he,hid,hid1⟩
 ·rw [h] at h1 ⊢
  rw [if_pos (by decide)]
  apply qe []
  repeat' (first|apply And.intro|(intro h;try exact cDd)|exact⟨Tryz.call233⟩|refine cpe h1 ?_|exact cSd|apply qd []|refine exr ?_|refine qg ?_)
 ·rw [h] at h1 ⊢
  rw [if_neg (by omega),Int.toNat_natCast]
  unfold delL
  simp only
  have hend:dlF i l.ents l.ents.length=l.ents.take i++l.ents.drop (i+1):=by unfold dlF;rw [List.take_length]
  have hll:∀ k,k≤l.ents.length→((dlF i l.ents k).map entA).length≤k:=fun k hk=>by
   simp [dlF]
   omega
  rw [← hend]
  apply qe []
  repeat' (first|apply And.intro|(intro h;try exact cDd)|exact⟨Tryz.call233⟩|refine cpe h1 ?_|exact cSd|apply qd []|refine exr ?_|refine qg ?_)
  refine vv (X:=Nat) (fun k=>⟨[(2,.a (.pp [entsA l.ents,Iv l.next])),(4,.bx 0 0),(6,.i i),(7,.bx 1 0),(8,.i k)],[(0,some (.cells 89 [.a zv,.i 0])),(1,some (.cells 89 [.tp 2,.i l.next])),(2,some (.tip 4 167 ((dlF i l.ents k).map entA)))],3⟩)
   (fun k=>k≤l.ents.length) (fun k=>l.ents.length - k) 0 (by omega) ?_ ?_
  ·skip
   repeat' (first|apply And.intro|(intro h;try exact cDd)|exact cSd|apply qd []|refine exr ?_|refine qg ?_)
   all_goals first|rfl|(simp [dlF];done)|(simp [dlF];rfl)
  ·rintro k hk
   by_cases hkn:k<l.ents.length
   ·have hx:l.ents[k]? = some l.ents[k]:=List.getElem?_eq_getElem hkn
    have hxm:(l.ents.map entA)[k]? = some (entA l.ents[k]):=by rw [List.getElem?_map,hx];rfl
    have htk:=dlF_eq (i:=i) hx
    have htl:=hll k hk
    rw [List.length_map] at htl
    generalize l.ents[k]=e' at hx hxm htk
    by_cases hki:k=i
    ·rw [if_pos hki,List.append_nil] at htk
     apply qe []
     repeat' (first|apply And.intro|(intro h;try exact cDd)|(refine Exists.intro (k+1) ⟨by omega,by omega,?_⟩)|exact absurd hki (by omega)|exact cSd|apply qd []|refine exr ?_|refine qg ?_)
     all_goals first|(rw [htk];done)|omega|(simp;omega)
    ·rw [if_neg hki] at htk
     apply qe []
     repeat' (first|apply And.intro|(intro h;try exact cDd)|(refine Exists.intro (k) ⟨by omega,_,hxm,?_⟩)|(refine Exists.intro (k+1) ⟨by omega,by omega,?_⟩)|exact absurd (by omega) hki|exact cSd|apply qd []|refine exr ?_|refine qg ?_)
     all_goals first|(rw [htk];simp;done)|omega|(simp;omega)
   ·have hkn:k=l.ents.length:=by omega
    subst hkn
    apply qe []
    repeat' (first|apply And.intro|(intro h;try exact cDd)|exact cSd|apply qd []|refine exr ?_|refine qg ?_)
def rlR4 (l:qp) (n:Int) (e:ErrV):AV:=.tu [rlistA l,Iv n,Iv e.pos,Iv e.code]
theorem rlR4_pure (l:qp) (n:Int) (e:ErrV):Pure (rlR4 l n e):=pure_tu4 (rlistA_pure _) (q8 _) (q8 _) (q8 _)
set_option maxHeartbeats 4000000 in
theorem refIns07_c (l:qp) (id:Int) (fs:List Fld) (st:List AObj) (hl:l.ents.length<1000000) (hn:1≤l.next∧l.next<1000000) (hM:l.many=cntF l.ents) (hK:KeyB fs) (hfl:fs.length<1000000):qn E 197 [rlistA l,Iv id,zr fs] st fun r st'=>r=rlR4 (insF l id fs).2.2 (insF l id fs).1 (insF l id fs).2.1∧st'=st:=by
 refine jc [.a (rlistA l),.i id,.a (zr fs)] (rlR4_pure _ _ _) Tryz.func197 rfl rfl (fun _=>rfl) rfl fun S0=>?_
 have h1:=fun st=>refFind07_c l id st hl
 have hmi:(l.ents.map entA).length=l.ents.length:=by simp
 have h2:=fun st=>refCheck06_c fs st hK (by omega)
 have h3:=fun st=>refLen07_c l st hl
 unfold insF rlR4
 rw [hM]
 rcases Decidable.em (atF l id<0∧id≠0) with hb|hb
 ·rw [if_pos hb]
  obtain⟨hb1,hb2⟩:=hb
  generalize atF l id=a at hb1 h1
  apply qe []
  repeat' (first|apply And.intro|(intro h;try exact cDd)|exact⟨Tryz.call233⟩|refine cpe h1 ?_|exact cSd|apply qd []|refine exr ?_|refine qg ?_)
 ·rw [if_neg hb]
  obtain⟨a,j,ha,hj,hjl,hor⟩:∃ (a:Int) (j:Nat),atF l id=a∧a+1=(j:Int)∧j≤l.ents.length∧(0≤a∨a = -1∧id=0):=by
   rcases qgv l id with h | ⟨i,e,h,he,_⟩
   ·exact⟨-1,0,h,rfl,by omega,.inr ⟨rfl,Decidable.not_not.1 fun h0=>hb ⟨by omega,h0⟩⟩⟩
   ·have:=lt_of_getElem? he
    exact⟨i,i+1,h,rfl,by omega,.inl (by omega)⟩
  rw [ha] at h1 hb ⊢
  rw [hj,Int.toNat_natCast]
  by_cases hc:zl fs = .no
  ·rw [hc] at h2
   rw [if_pos hc]
   by_cases hm:400≤(cntF l.ents:Int)
   ·rw [if_pos hm]
    generalize cntF l.ents=m at h3 hm
    rcases hor with hor | ⟨hor,hor2⟩
    ·apply qe []
     repeat' (first|apply And.intro|(intro h;try exact cDd)|exact⟨Tryz.call233⟩|refine cpe h1 ?_|exact⟨Tryz.call124⟩|refine cpe h2 ?_|exact⟨Tryz.call235⟩|refine cpe h3 ?_|exact cSd|apply qd []|refine exr ?_|refine qg ?_)
    ·apply qe []
     repeat' (first|apply And.intro|(intro h;try exact cDd)|exact⟨Tryz.call233⟩|refine cpe h1 ?_|exact⟨Tryz.call124⟩|refine cpe h2 ?_|exact⟨Tryz.call235⟩|refine cpe h3 ?_|exact cSd|apply qd []|refine exr ?_|refine qg ?_)
   ·rw [if_neg hm]
    generalize cntF l.ents=m at h3 hm
    obtain⟨_,g3,g4⟩:=qck hc
    have h4:=fun st=>refItem06_c fs st (q19 g3 g4)
    unfold insL wb
    rw [if_pos hc]
    simp only
    have hend:inF j ⟨⟨3,js fs,fs⟩,l.next⟩ l.ents l.ents.length=l.ents.take j++⟨⟨3,js fs,fs⟩,l.next⟩::l.ents.drop j:=by
     unfold inF
     rw [List.take_length,if_pos hjl]
    have hll:∀ k,k≤l.ents.length→((inF j ⟨⟨3,js fs,fs⟩,l.next⟩ l.ents k).map entA).length≤k+1:=fun k hk=>by
     unfold inF
     split
     ·simp
      omega
     ·simp
      omega
    rw [← hend]
    have h0:0≤a→inF j ⟨⟨3,js fs,fs⟩,l.next⟩ l.ents 0=[]:=fun h=>by
     unfold inF
     rw [if_neg (by omega)]
     simp
    have h00:a = -1→inF j ⟨⟨3,js fs,fs⟩,l.next⟩ l.ents 0=[⟨⟨3,js fs,fs⟩,l.next⟩]:=fun h=>by
     unfold inF
     rw [if_pos (by omega)]
     simp
    have hst:=fun k e'=>inF_eq (j:=j) (x:=⟨⟨3,js fs,fs⟩,l.next⟩) (es:=l.ents) (k:=k) (e:=e')
    generalize inF j ⟨⟨3,js fs,fs⟩,l.next⟩ l.ents=iF at hll h0 h00 hst
    rcases hor with hor | ⟨hor,hor2⟩
    ·have h0:=h0 hor
     clear h00
     apply qe []
     repeat' (first|apply And.intro|(intro h;try exact cDd)|exact⟨Tryz.call233⟩|refine cpe h1 ?_|exact⟨Tryz.call124⟩|refine cpe h2 ?_|exact⟨Tryz.call235⟩|refine cpe h3 ?_|exact⟨Tryz.call234⟩|refine cpe h4 ?_|exact cSd|apply qd []|refine exr ?_|refine qg ?_)
     refine vv (X:=Nat) (fun k=>⟨[(3,.a (.pp [entsA l.ents,Iv l.next])),(6,.bx 0 0),(10,.i a),(13,.bx 1 0),(14,.bx 2 0),(15,.i k)],[(0,some (.cells 89 [.a zv,.i 0])),(1,some (.cells 89 [.tp 3,.i (l.next+1)])),(2,some (.cells 167 [.i 3,.s (js fs),.a (zr fs),.i l.next])),(3,some (.tip 4 167 ((iF k).map entA)))],4⟩)
      (fun k=>k≤l.ents.length) (fun k=>l.ents.length - k) 0 (by omega) ?_ ?_
     ·skip
      repeat' (first|apply And.intro|(intro h;try exact cDd)|exact cSd|apply qd []|refine exr ?_|refine qg ?_)
      all_goals first|rfl|(simp [h0];done)|(simp [h0];rfl)
     ·rintro k hk
      by_cases hkn:k<l.ents.length
      ·have hx:l.ents[k]? = some l.ents[k]:=List.getElem?_eq_getElem hkn
       have hxm:(l.ents.map entA)[k]? = some (entA l.ents[k]):=by rw [List.getElem?_map,hx];rfl
       have htk:=hst k _ hx
       have htl:=hll k hk
       rw [List.length_map] at htl
       generalize l.ents[k]=e' at hx hxm htk
       by_cases hki:j=k+1
       ·rw [if_pos hki] at htk
        apply qe []
        repeat' (first|apply And.intro|(intro h;try exact cDd)|(refine Exists.intro (k) ⟨by omega,_,hxm,?_⟩)|(refine Exists.intro (k+1) ⟨by omega,by omega,?_⟩)|exact absurd hki (by omega)|exact cSd|apply qd []|refine exr ?_|refine qg ?_)
        all_goals first|(rw [htk];simp;done)|omega|(simp;omega)
       ·rw [if_neg hki] at htk
        apply qe []
        repeat' (first|apply And.intro|(intro h;try exact cDd)|(refine Exists.intro (k) ⟨by omega,_,hxm,?_⟩)|(refine Exists.intro (k+1) ⟨by omega,by omega,?_⟩)|exact absurd (by omega) hki|exact cSd|apply qd []|refine exr ?_|refine qg ?_)
        all_goals first|(rw [htk];simp;done)|omega|(simp;omega)
      ·have hkn:k=l.ents.length:=by omega
       subst hkn
       apply qe []
       repeat' (first|apply And.intro|(intro h;try exact cDd)|exact cSd|apply qd []|refine exr ?_|refine qg ?_)
    ·have hz:=h00 hor
     clear h00 h0
     subst hor
     apply qe []
     repeat' (first|apply And.intro|(intro h;try exact cDd)|exact⟨Tryz.call233⟩|refine cpe h1 ?_|exact⟨Tryz.call124⟩|refine cpe h2 ?_|exact⟨Tryz.call235⟩|refine cpe h3 ?_|exact⟨Tryz.call234⟩|refine cpe h4 ?_|exact cSd|apply qd []|refine exr ?_|refine qg ?_)
     refine vv (X:=Nat) (fun k=>⟨[(3,.a (.pp [entsA l.ents,Iv l.next])),(6,.bx 0 0),(10,.i (-1)),(13,.bx 1 0),(14,.bx 2 0),(15,.i k)],[(0,some (.cells 89 [.a zv,.i 0])),(1,some (.cells 89 [.tp 3,.i (l.next+1)])),(2,some (.cells 167 [.i 3,.s (js fs),.a (zr fs),.i l.next])),(3,some (.tip 4 167 ((iF k).map entA)))],4⟩)
      (fun k=>k≤l.ents.length) (fun k=>l.ents.length - k) 0 (by omega) ?_ ?_
     ·skip
      repeat' (first|apply And.intro|(intro h;try exact cDd)|exact cSd|apply qd []|refine exr ?_|refine qg ?_)
      all_goals first|rfl|(simp [hz];done)|(simp [hz];rfl)
     ·rintro k hk
      by_cases hkn:k<l.ents.length
      ·have hx:l.ents[k]? = some l.ents[k]:=List.getElem?_eq_getElem hkn
       have hxm:(l.ents.map entA)[k]? = some (entA l.ents[k]):=by rw [List.getElem?_map,hx];rfl
       have htk:=hst k _ hx
       have htl:=hll k hk
       rw [List.length_map] at htl
       generalize l.ents[k]=e' at hx hxm htk
       rw [if_neg (by omega)] at htk
       apply qe []
       repeat' (first|apply And.intro|(intro h;try exact cDd)|(refine Exists.intro (k) ⟨by omega,_,hxm,?_⟩)|(refine Exists.intro (k+1) ⟨by omega,by omega,?_⟩)|exact cSd|apply qd []|refine exr ?_|refine qg ?_)
       all_goals first|(rw [htk];simp;done)|omega|(simp;omega)
      ·have hkn:k=l.ents.length:=by omega
       subst hkn
       apply qe []
       repeat' (first|apply And.intro|(intro h;try exact cDd)|exact cSd|apply qd []|refine exr ?_|refine qg ?_)
  ·obtain⟨p,n,hp,hn,hn0⟩:=checkFs_pc fs hc
   rw [hp,hn] at h2
   rw [if_neg hc,hp,hn]
   rcases hor with hor | ⟨hor,hor2⟩
   ·apply qe []
    repeat' (first|apply And.intro|(intro h;try exact cDd)|exact⟨Tryz.call233⟩|refine cpe h1 ?_|exact⟨Tryz.call124⟩|refine cpe h2 ?_|exact cSd|apply qd []|refine exr ?_|refine qg ?_)
   ·apply qe []
    repeat' (first|apply And.intro|(intro h;try exact cDd)|exact⟨Tryz.call233⟩|refine cpe h1 ?_|exact⟨Tryz.call124⟩|refine cpe h2 ?_|exact cSd|apply qd []|refine exr ?_|refine qg ?_)
theorem refOne09_c (n:Nat) (l:qp) (x:qr) (st:List AObj) (hB:LB n l) (hM:LM l) (hK:KeyB x.fields) (hl:x.fields.length<1000000):qn E 152 [rlistA l,x2 x] st fun r st'=>r = .tu [rlistA (oneF l x).2.2,Iv (oneF l x).1,Iv (oneF l x).2.1.code]∧st'=st:=by
 refine jc [.a (rlistA l),.a (x2 x)] (qu3 (rlistA_pure _) (q8 _) (q8 _)) Tryz.func152 rfl rfl (fun _=>rfl) rfl fun S0=>?_
 have g1:=hB.len;have g2:=hB.nx0;have g3:=hB.nx1;have g4:=hB.small
 unfold oneF
 by_cases h1:x.kind=1
 ·rw [if_pos h1]
  have hc:=fun st=>refRepl07_c l x.id x.fields st (by omega) hK hl
  unfold rlR at hc
  generalize v8 l x.id x.fields=r at hc
  apply qe []
  repeat' (first|apply And.intro|(intro h;try exact cDd)|exact⟨Tryz.call195⟩|refine cpe hc ?_|exact cSd|apply qd []|refine exr ?_|refine qg ?_)
 ·rw [if_neg h1]
  by_cases h2:x.kind=2
  ·rw [if_pos h2]
   have hc:=fun st=>refDel07_c l x.id st (by omega)
   generalize delF l x.id=r at hc
   apply qe []
   repeat' (first|apply And.intro|(intro h;try exact cDd)|exact⟨Tryz.call196⟩|refine cpe hc ?_|exact cSd|apply qd []|refine exr ?_|refine qg ?_)
  ·rw [if_neg h2]
   have hc:=fun st=>refIns07_c l x.id x.fields st (by omega) ⟨by omega,by omega⟩ hM hK hl
   unfold rlR4 at hc
   generalize insF l x.id x.fields=r at hc
   apply qe []
   repeat' (first|apply And.intro|(intro h;try exact cDd)|exact⟨Tryz.call197⟩|refine cpe hc ?_|exact cSd|apply qd []|refine exr ?_|refine qg ?_)
def doR (l:qp) (r:ErrV×qp×List Int):AV:=if r.1 = .no then .tu [rlistA r.2.1,qdf r.2.2,Iv (-9),Iv 0] else .tu [rlistA l,qdf [],Iv r.1.pos,Iv r.1.code]
theorem doR_pure (l:qp) (r:ErrV×qp×List Int):Pure (doR l r):=by
 unfold doR
 split
 ·exact pure_tu4 (rlistA_pure _) (qco _) (q8 _) (q8 _)
 ·exact pure_tu4 (rlistA_pure _) (qco _) (q8 _) (q8 _)
theorem refDo09_c (n:Nat) (l:qp) (b:List qr) (st:List AObj) (hB:LB n l) (hM:LM l) (hn:n+40<900000) (hE:∀ x∈b,EdB x) (hl:b.length<1000000):qn E 97 [rlistA l,yr b] st fun r st'=>r=doR l (doF l b)∧st'=st:=by
 refine jc [.a (rlistA l),.a (yr b)] (doR_pure _ _) Tryz.func97 rfl rfl (fun _=>rfl) rfl fun S0=>?_
 have hck:=fun st=>refCheck09_c b st hE (by omega)
 have hmi:(b.map x2).length=b.length:=by simp
 unfold doF
 by_cases he:eErr b = .no
 ·rw [he] at hck
  rw [if_pos he]
  obtain⟨hb1,hb40,hg⟩:=qg2 he
  apply qe []
  repeat' (first|apply And.intro|(intro h;try exact cDd)|exact⟨Tryz.call33⟩|refine cpe hck ?_|exact cSd|apply qd []|refine exr ?_|refine qg ?_)
  refine vv (X:=Nat×qp×List Int) (fun (k,q,ids)=>⟨[(1,.a (yr b)),(2,.a (.pp [entsA l.ents,Iv l.next])),(4,.bx 0 0),(10,.bx 1 0),(11,.tp 2),(12,.i k)],[(0,some (.cells 89 [.a zv,.i 0])),(1,some (.cells 89 [.a (entsA q.ents),.i q.next])),(2,some (.tip 1 3 (ids.map fun x=>Iv x)))],3⟩)
   (fun (k,q,ids)=>k≤b.length∧LB (n+k) q∧LM q∧ids.length≤k∧ke k (b.drop k) q ids=ke 0 b l []) (fun (k,q,ids)=>b.length - k) (0,l,[]) ⟨by omega,hB,hM,by simp,rfl⟩ ?_ ?_
  ·skip
   repeat' (first|apply And.intro|(intro h;try exact cDd)|exact cSd|apply qd []|refine exr ?_|refine qg ?_)
   all_goals first|rfl|(simp;done)
  ·rintro⟨k,q,ids⟩ ⟨hk,hq,hqm,hil,hrun⟩
   by_cases hkn:k<b.length
   ·have hx:b[k]? = some b[k]:=List.getElem?_eq_getElem hkn
    have hxm:(b.map x2)[k]? = some (x2 b[k]):=by rw [List.getElem?_map,hx];rfl
    have hxE:=hE b[k] (List.getElem_mem hkn)
    have hxf:=(qg4 (hg b[k] (List.getElem_mem hkn))).1
    rw [List.drop_eq_getElem_cons hkn,ke] at hrun
    have hidl:(ids.map fun x=>Iv x).length=ids.length:=by simp
    generalize b[k]=x at hx hxm hxE hxf hrun
    have hon:=fun st=>refOne09_c (n+k) q x st hq hqm hxE.keys (by omega)
    have hlb:=qpg hq (by omega) x
    have hlm:=q8y hqm hq.nx0 x
    have hcd:=fun h=>qq6 (l:=q) (x:=x) h
    generalize oneF q x=o at hon hlb hlm hcd hrun
    obtain⟨id,e,q'⟩:=o
    dsimp only at hon hlb hlm hcd hrun
    by_cases hen:e = .no
    ·subst hen
     rw [if_pos rfl] at hrun
     by_cases h0:0<id
     ·rw [if_pos h0] at hrun
      apply qe []
      repeat' (first|apply And.intro|(intro h;try exact cDd)|(refine Exists.intro (k) ⟨by omega,_,hxm,?_⟩)|exact⟨Tryz.call152⟩|refine cpe hon ?_|(refine Exists.intro (k+1,q',ids++[id]) ⟨⟨by omega,hlb,hlm,by simp;omega,hrun⟩,by simp only;omega,?_⟩)|exact cSd|apply qd []|refine exr ?_|refine qg ?_)
      all_goals first|(simp;done)|(simp;omega)
     ·rw [if_neg h0] at hrun
      apply qe []
      repeat' (first|apply And.intro|(intro h;try exact cDd)|(refine Exists.intro (k) ⟨by omega,_,hxm,?_⟩)|exact⟨Tryz.call152⟩|refine cpe hon ?_|(refine Exists.intro (k+1,q',ids) ⟨⟨by omega,hlb,hlm,by first|omega|(simp only;omega),hrun⟩,by simp only;omega,?_⟩)|exact cSd|apply qd []|refine exr ?_|refine qg ?_)
      all_goals first|(simp;done)|(simp;omega)
    ·rw [if_neg hen] at hrun
     rw [← hrun]
     have hcd:=hcd hen
     have hA:doR l (ErrV.at' (↑k) e.code,q,ids) = .tu [rlistA l,qdf [],Iv k,Iv e.code]:=by
      unfold doR
      rw [if_neg (by simp)]
      try rfl
     rw [hA]
     generalize ErrV.code e=c at hon hcd
     apply qe []
     repeat' (first|apply And.intro|(intro h;try exact cDd)|(refine Exists.intro (k) ⟨by omega,_,hxm,?_⟩)|exact⟨Tryz.call152⟩|refine cpe hon ?_|exact cSd|apply qd []|refine exr ?_|refine qg ?_)
   ·have hkn:k=b.length:=by omega
    subst hkn
    rw [List.drop_length,ke] at hrun
    rw [← hrun]
    unfold doR
    rw [if_pos rfl]
    apply qe []
    repeat' (first|apply And.intro|(intro h;try exact cDd)|exact cSd|apply qd []|refine exr ?_|refine qg ?_)
 ·obtain⟨p,m,hp,hm,h0⟩:=eErr_pc b
  have hz:m≠0:=fun h=>he (h0.1 h)
  rw [if_neg he]
  unfold doR
  simp only
  rw [if_neg he]
  rw [hp,hm] at hck ⊢
  apply qe []
  repeat' (first|apply And.intro|(intro h;try exact cDd)|exact⟨Tryz.call33⟩|refine cpe hck ?_|exact cSd|apply qd []|refine exr ?_|refine qg ?_)
theorem refJoin05_c (its:List qu) (st:List AObj) (hl:its.length<1000000000) (hr:(zu its).length≤1000000000000):qn E 153 [wp its] st fun r st'=>r=Sv (zu its)∧st'=st:=by
 refine jc [.a (wp its)] (q8 _) Tryz.func153 rfl rfl (fun _=>rfl) rfl fun S0=>?_
 have hmi:(its.map wn).length=its.length:=by simp
 apply qe []
 repeat' (first|apply And.intro|(intro h;try exact cDd)|exact cSd|apply qd []|refine exr ?_|refine qg ?_)
 refine vv (X:=Nat) (fun k=>⟨[(0,.a (wp its)),(3,.s (zu (its.take k))),(4,.i k)],[],0⟩) (fun k=>k≤its.length) (fun k=>its.length - k) 0 (by omega) ?_ ?_
 ·skip
  repeat' (first|apply And.intro|(intro h;try exact cDd)|exact cSd|apply qd []|refine exr ?_|refine qg ?_)
  all_goals (simp [zu];done)
 ·rintro k hk
  by_cases hkn:k<its.length
  ·have hx:its[k]? = some its[k]:=List.getElem?_eq_getElem hkn
   have hxm:(its.map wn)[k]? = some (wn its[k]):=by rw [List.getElem?_map,hx];rfl
   have htk:its.take (k+1)=its.take k++[its[k]]:=by rw [List.take_add_one,hx];rfl
   have hrl:(zu (its.take k)).length+its[k].raw.length≤1000000000000:=by
    have h1:zu its=zu (its.take (k+1))++zu (its.drop (k+1)):=by rw [← qca,List.take_append_drop]
    rw [h1,htk,qca,qcb] at hr
    simp only [List.length_append] at hr
    omega
   generalize its[k]=x at hx hxm htk hrl
   apply qe []
   repeat' (first|apply And.intro|(intro h;try exact cDd)|(refine Exists.intro (k) ⟨by omega,_,hxm,?_⟩)|(refine Exists.intro (k+1) ⟨by omega,by omega,?_⟩)|exact cSd|apply qd []|refine exr ?_|refine qg ?_)
   all_goals first|(rw [htk,qca,qcb];done)|omega
  ·have hkn:k=its.length:=by omega
   subst hkn
   rw [List.take_length]
   apply qe []
   repeat' (first|apply And.intro|(intro h;try exact cDd)|exact cSd|apply qd []|refine exr ?_|refine qg ?_)
theorem refApart06_c (its:List qu) (st:List AObj) (hl:its.length≤1000000):qn E 154 [wp its] st fun r st'=>r=wp (ww its)∧st'=st:=by
 refine jc [.a (wp its)] (qbg _) Tryz.func154 rfl rfl (fun _=>rfl) rfl fun S0=>?_
 have hmi:(its.map wn).length=its.length:=by simp
 apply qe []
 repeat' (first|apply And.intro|(intro h;try exact cDd)|exact cSd|apply qd []|refine exr ?_|refine qg ?_)
 refine vv (X:=Nat×List qu) (fun (k,out)=>⟨[(0,.a (wp its)),(3,.tp 0),(4,.i k)],[(0,some (.tip 3 112 (out.map wn)))],1⟩)
  (fun (k,out)=>k≤its.length∧out.length≤2 * k∧∃ prev,(prev=true↔∃ y,0<k∧its[k - 1]? = some y∧y.kind≠1)∧out++z6 prev (its.drop k)=ww its) (fun (k,out)=>its.length - k) (0,[]) ⟨by omega,by simp,false,by simp,rfl⟩ ?_ ?_
 ·skip
  repeat' (first|apply And.intro|(intro h;try exact cDd)|exact cSd|apply qd []|refine exr ?_|refine qg ?_)
  all_goals first|rfl|(simp;done)
 ·rintro⟨k,out⟩ ⟨hk,hol,prev,hpv,hrun⟩
  by_cases hkn:k<its.length
  ·have hx:its[k]? = some its[k]:=List.getElem?_eq_getElem hkn
   have hxm:(its.map wn)[k]? = some (wn its[k]):=by rw [List.getElem?_map,hx];rfl
   rw [List.drop_eq_getElem_cons hkn,z6] at hrun
   generalize its[k]=x at hx hxm hrun
   have hml:(out.map wn).length=out.length:=by simp
   have hnext:(decide (x.kind≠1)=true↔∃ y,0<k+1∧its[k+1 - 1]? = some y∧y.kind≠1):=by
    rw [decide_eq_true_iff,Nat.add_sub_cancel,hx]
    constructor
    ·intro h
     exact⟨x,by omega,rfl,h⟩
    ·rintro⟨y,_,h1,h2⟩
     simp only [Option.some.injEq] at h1
     rw [h1]
     exact h2
   by_cases hk0:k=0
   ·have hp:¬ (prev=true):=fun h=>by
     obtain⟨_,h,_⟩:=hpv.1 h
     omega
    rw [if_neg (fun h=>hp h.1)] at hrun
    apply qe []
    repeat' (first|apply And.intro|(intro h;try exact cDd)|(refine Exists.intro (k) ⟨by omega,_,hxm,?_⟩)|(refine Exists.intro (k+1,out++[x]) ⟨⟨by omega,by simp;omega,_,hnext,by rw [← hrun];simp⟩,by simp only;omega,?_⟩)|exact cSd|apply qd []|refine exr ?_|refine qg ?_)
    all_goals first|(simp [SV.evs,SV.ev];done)|(simp [SV.evs];omega)
   ·obtain⟨y,hy⟩:∃ y,its[k - 1]? = some y:=⟨_,List.getElem?_eq_getElem (by omega:k - 1<its.length)⟩
    have hym:(its.map wn)[k - 1]? = some (wn y):=by rw [List.getElem?_map,hy];rfl
    have hpy:(prev=true↔y.kind≠1):=by
     rw [hpv]
     constructor
     ·rintro⟨z,_,h1,h2⟩
      rw [hy] at h1
      simp only [Option.some.injEq] at h1
      rw [h1]
      exact h2
     ·exact fun h=>⟨y,by omega,hy,h⟩
    by_cases hb:x.kind≠1∧y.kind≠1
    ·rw [if_pos ⟨hpy.2 hb.2,hb.1⟩] at hrun
     obtain⟨hb1,hb2⟩:=hb
     apply qe []
     repeat' (first|apply And.intro|(intro h;try exact cDd)|(refine Exists.intro (k - 1) ⟨by omega,_,hym,?_⟩)|(refine Exists.intro (k) ⟨by omega,_,hxm,?_⟩)|(refine Exists.intro (k+1,out++[⟨1,[10],[]⟩,x]) ⟨⟨by omega,by simp;omega,_,hnext,by rw [← hrun];simp⟩,by simp only;omega,?_⟩)|exact cSd|apply qd []|refine exr ?_|refine qg ?_)
     all_goals first|(simp [SV.evs,SV.ev];done)|(simp [SV.evs];omega)
    ·rw [if_neg (fun h=>hb ⟨h.2,hpy.1 h.1⟩)] at hrun
     apply qe []
     repeat' (first|apply And.intro|(intro h;try exact cDd)|(refine Exists.intro (k - 1) ⟨by omega,_,hym,?_⟩)|(refine Exists.intro (k) ⟨by omega,_,hxm,?_⟩)|(refine Exists.intro (k+1,out++[x]) ⟨⟨by omega,by simp;omega,_,hnext,by rw [← hrun];simp⟩,by simp only;omega,?_⟩)|exact absurd ⟨by assumption,by assumption⟩ hb|exact cSd|apply qd []|refine exr ?_|refine qg ?_)
     all_goals first|(simp [SV.evs,SV.ev];done)|(simp [SV.evs];omega)
  ·have hkn:k=its.length:=by omega
   subst hkn
   rw [List.drop_length,z6,List.append_nil] at hrun
   rw [← hrun]
   apply qe []
   repeat' (first|apply And.intro|(intro h;try exact cDd)|exact cSd|apply qd []|refine exr ?_|refine qg ?_)
theorem refRender06_c (its:List qu) (st:List AObj) (hl:its.length≤1000000) (hr:(zu (ww its)).length≤1000000000000):qn E 98 [wp its] st fun r st'=>r=Sv (zu (ww its))∧st'=st:=by
 refine jc [.a (wp its)] (q8 _) Tryz.func98 rfl rfl (fun _=>rfl) rfl fun S0=>?_
 have h1:=fun st=>refApart06_c its st hl
 have hal:=qp5 false its
 have h2:=fun st=>refJoin05_c (ww its) st (by unfold ww;omega) hr
 apply qe []
 repeat' (first|apply And.intro|(intro h;try exact cDd)|exact⟨Tryz.call154⟩|refine cpe h1 ?_|exact⟨Tryz.call153⟩|refine cpe h2 ?_|exact cSd|apply qd []|refine exr ?_|refine qg ?_)
theorem refItems07_c (l:qp) (st:List AObj) (hl:l.ents.length<1000000):qn E 99 [rlistA l] st fun r st'=>r=wp (ze l)∧st'=st:=by
 refine jc [.a (rlistA l)] (qbg _) Tryz.func99 rfl rfl (fun _=>rfl) rfl fun S0=>?_
 have hmi:(l.ents.map entA).length=l.ents.length:=by simp
 have hil:(ze l).length=l.ents.length:=by simp [ze]
 apply qe []
 repeat' (first|apply And.intro|(intro h;try exact cDd)|exact cSd|apply qd []|refine exr ?_|refine qg ?_)
 refine vv (X:=Nat) (fun k=>⟨[(1,.a (.pp [entsA l.ents,Iv l.next])),(3,.tp 0),(4,.i k)],[(0,some (.tip 3 112 (((ze l).take k).map wn)))],1⟩)
  (fun k=>k≤l.ents.length) (fun k=>l.ents.length - k) 0 (by omega) ?_ ?_
 ·skip
  repeat' (first|apply And.intro|(intro h;try exact cDd)|exact cSd|apply qd []|refine exr ?_|refine qg ?_)
  all_goals first|rfl|(simp;done)
 ·rintro k hk
  by_cases hkn:k<l.ents.length
  ·have hx:l.ents[k]? = some l.ents[k]:=List.getElem?_eq_getElem hkn
   have hxm:(l.ents.map entA)[k]? = some (entA l.ents[k]):=by rw [List.getElem?_map,hx];rfl
   have hxi:(ze l)[k]? = some l.ents[k].x:=by unfold ze;rw [List.getElem?_map,hx];rfl
   have htk:(ze l).take (k+1)=(ze l).take k++[l.ents[k].x]:=by rw [List.take_add_one,hxi];rfl
   have htl:(((ze l).take k).map wn).length≤k:=by simp;omega
   generalize l.ents[k]=e at hx hxm hxi htk
   apply qe []
   repeat' (first|apply And.intro|(intro h;try exact cDd)|(refine Exists.intro (k) ⟨by omega,_,hxm,?_⟩)|(refine Exists.intro (k+1) ⟨by omega,by omega,?_⟩)|exact cSd|apply qd []|refine exr ?_|refine qg ?_)
   all_goals first|(rw [htk];simp;done)|(simp [SV.evs];omega)
  ·have hkn:k=l.ents.length:=by omega
   subst hkn
   have e:(ze l).take l.ents.length=ze l:=List.take_of_length_le (by omega)
   rw [e]
   apply qe []
   repeat' (first|apply And.intro|(intro h;try exact cDd)|exact cSd|apply qd []|refine exr ?_|refine qg ?_)
theorem refText07_c (l:qp) (st:List AObj) (hl:l.ents.length<1000000) (hr:(wo l).length≤1000000000000):qn E 51 [rlistA l] st fun r st'=>r=Sv (wo l)∧st'=st:=by
 refine jc [.a (rlistA l)] (q8 _) Tryz.func51 rfl rfl (fun _=>rfl) rfl fun S0=>?_
 have h1:=fun st=>refItems07_c l st hl
 have h2:=fun st=>refRender06_c (ze l) st (by simp [ze];omega) hr
 apply qe []
 repeat' (first|apply And.intro|(intro h;try exact cDd)|exact⟨Tryz.call99⟩|refine cpe h1 ?_|exact⟨Tryz.call98⟩|refine cpe h2 ?_|exact cSd|apply qd []|refine exr ?_|refine qg ?_)
end Go.Proofs.YtejoahlpbckbeaaGreatDoor
namespace Go.Pl
open Go Go.Proofs
theorem stzF_one (e:EntV):stzF [e]=if 0<e.id then [(e.id,e.x.fields)] else []:=by
 by_cases h:0<e.id <;> simp [stzF,h]
end Go.Pl
namespace Go.Proofs.YtejoahlpbckbeaaGreatDoor
open Go Go.Av Go.RowKit Go.Proofs Go.Pl
theorem refStanzas07_c (l:qp) (st:List AObj) (hl:l.ents.length<1000000):qn E 95 [rlistA l] st fun r st'=>r=qsl (stzF l.ents)∧st'=st:=by
 refine jc [.a (rlistA l)] (q0h _) Tryz.func95 rfl rfl (fun _=>rfl) rfl fun S0=>?_
 obtain⟨es,nx,mn⟩:=l
 dsimp only at hl ⊢
 have hmi:(es.map entA).length=es.length:=by simp
 apply qe []
 repeat' (first|apply And.intro|(intro h;try exact cDd)|exact cSd|apply qd []|refine exr ?_|refine qg ?_)
 refine vv (X:=Nat) (fun k=>⟨[(1,.a (.pp [entsA es,Iv nx])),(3,.tp 0),(4,.i k)],[(0,some (.tip 2 120 ((stzF (es.take k)).map stzA)))],1⟩) (fun k=>k≤es.length) (fun k=>es.length - k) 0 (by omega) ?_ ?_
 ·skip
  repeat' (first|apply And.intro|(intro h;try exact cDd)|exact cSd|apply qd []|refine exr ?_|refine qg ?_)
  all_goals first|rfl|(simp [stzF];done)|(simp [stzF];rfl)
 ·rintro k hk
  by_cases hkn:k<es.length
  ·have hx:es[k]? = some es[k]:=List.getElem?_eq_getElem hkn
   have hxm:(es.map entA)[k]? = some (entA es[k]):=by rw [List.getElem?_map,hx];rfl
   have htk:es.take (k+1)=es.take k++[es[k]]:=by rw [List.take_add_one,hx];rfl
   have hsl:=qc8 (es.take k)
   have hsl2:(es.take k).length≤k:=by simp;omega
   generalize es[k]=e at hx hxm htk
   by_cases h0:0<e.id
   ·have e1:stzF (es.take (k+1))=stzF (es.take k)++[(e.id,e.x.fields)]:=by rw [htk,qid,stzF_one,if_pos h0]
    apply qe []
    repeat' (first|apply And.intro|(intro h;try exact cDd)|(refine Exists.intro (k) ⟨by omega,_,hxm,?_⟩)|(refine Exists.intro (k+1) ⟨by omega,by omega,?_⟩)|exact cSd|apply qd []|refine exr ?_|refine qg ?_)
    all_goals first|(rw [e1];simp;done)|(simp;omega)
   ·have e1:stzF (es.take (k+1))=stzF (es.take k):=by rw [htk,qid,stzF_one,if_neg h0,List.append_nil]
    apply qe []
    repeat' (first|apply And.intro|(intro h;try exact cDd)|(refine Exists.intro (k) ⟨by omega,_,hxm,?_⟩)|(refine Exists.intro (k+1) ⟨by omega,by omega,?_⟩)|exact cSd|apply qd []|refine exr ?_|refine qg ?_)
    all_goals first|(rw [e1];done)|(simp;omega)
  ·have hkn:k=es.length:=by omega
   subst hkn
   rw [List.take_length]
   apply qe []
   repeat' (first|apply And.intro|(intro h;try exact cDd)|exact cSd|apply qd []|refine exr ?_|refine qg ?_)
theorem editsSame_c (b:List qr) (st:List AObj) (hl:b.length<1000000) (hf:∀ x∈b,x.fields.length<1000000):qn E 34 [yr b,yr b] st fun r st'=>r=Bv true∧st'=st:=by
 refine jc [.a (yr b),.a (yr b)] (q8 _) Tryz.func34 rfl rfl (fun _=>rfl) rfl fun S0=>?_
 have hmi:(b.map x2).length=b.length:=by simp
 apply qe []
 repeat' (first|apply And.intro|(intro h;try exact cDd)|exact cSd|apply qd []|refine exr ?_|refine qg ?_)
 refine vv (X:=Nat) (fun k=>⟨[(0,.a (yr b)),(1,.a (yr b)),(12,.i (b.map x2).length),(13,.i k)],[],0⟩) (fun k=>k≤b.length) (fun k=>b.length - k) 0 (by omega) ?_ ?_
 ·skip
  repeat' (first|apply And.intro|(intro h;try exact cDd)|exact cSd|apply qd []|refine exr ?_|refine qg ?_)
 ·rintro k hk
  by_cases hkn:k<b.length
  ·obtain⟨y,hy⟩:∃ y,b[k]? = some y:=⟨_,List.getElem?_eq_getElem hkn⟩
   have hget:=q10 hy
   have hxf:=hf y (List.mem_of_getElem? hy)
   have hfe:=fun st=>fieldsN_c y.fields y.fields st (by omega)
   rw [decide_eq_true rfl] at hfe
   apply qe []
   repeat' (first|apply And.intro|(intro h;try exact cDd)|(refine Exists.intro (k) ⟨by omega,_,hget,?_⟩)|exact⟨Tryz.call76⟩|refine cpe hfe ?_|(refine Exists.intro (k+1) ⟨by omega,by omega,?_⟩)|exact cSd|apply qd []|refine exr ?_|refine qg ?_)
  ·apply qe []
   repeat' (first|apply And.intro|(intro h;try exact cDd)|exact cSd|apply qd []|refine exr ?_|refine qg ?_)
end Go.Proofs.YtejoahlpbckbeaaGreatDoor
namespace Go.Av
open Go Go.RowKit
theorem sem_wkR {E:Env} {rd:Option Nat} {N:Nat} {B:Bs} {c:Code} {Q:Exit→Conf→Prop} {C:Conf} {b r sz:Nat} {T T2:TypeId} {zs:List AV} {ys:List AV} (hb:hpF C.hp b=some (.rows T zs [.tp r])) (hr:hpF C.hp r=some (.tip sz T2 ys))
  (h:Sm E rd N B c Q ⟨C.sl,(b,some (.rows T (zs++[.sl sz ys none]) []))::C.hp,C.nx⟩):Sm E rd N B c Q C:=⟨fun s hs=>by
 obtain⟨t,S,df⟩:=s
 obtain⟨ρ,hF,hR⟩:=hs
 simp only at hF hR
 obtain⟨hwk,h1⟩:=qpw (hR.hp.ok r _ hr)
 have htr:tpAt (ρ r) = ρ r:=by unfold tpAt;rw [h1];rfl
 rw [htr] at hwk
 rcases hR.hp.ok b _ hb with⟨e,_⟩ | ⟨o2,ver2,cap2,pad2,g1,g2,g3,g4,g5,g6⟩
 ·simp [SV.evs] at e
 have hev:zs++SV.evs ρ [.tp r]=zs++[ρ r]:=by simp [SV.evs,SV.ev,htr]
 have hev2:(zs++[.sl sz ys none])++SV.evs ρ []=zs++[.sl sz ys none]:=by simp [SV.evs]
 rw [hev] at g1 g2 g3 g4 g5
 have hfa:flat (zs++[ρ r])++pad2=flat (zs) ++ ρ r::pad2:=by rw [vf];simp [flat,qf5 h1]
 have hfb:flat (zs++[.sl sz ys none])++pad2=flat (zs) ++ .sl sz ys none::pad2:=by rw [vf];simp [flat,AV.cells]
 have hget:∀ k x,hpF ((b,some (.rows T (zs++[.sl sz ys none]) []))::C.hp) k=some x→(k=b∧x = .rows T (zs++[.sl sz ys none]) [])∨(k≠b∧hpF C.hp k=some x):=fun k x hk=>by
  unfold hpF at hk ⊢
  simp only [lkS] at hk
  by_cases e:b=k
  ·subst e
   simp at hk
   exact .inl ⟨rfl,hk.symm⟩
  ·rw [zp e] at hk
   exact .inr ⟨fun h=>e h.symm,hk⟩
 have hP:SatR B.S0 B.F ⟨C.sl,(b,some (.rows T (zs++[.sl sz ys none]) []))::C.hp,C.nx⟩ ρ t (S.set o2 (.cells ver2 T (flat (zs++[.sl sz ys none])++pad2))):=by
  refine⟨hR.sl,⟨fun k x hk=>?_,fun k k' x x' hne hk hk'=>?_⟩,fun k x hk j hj=>?_,fun j hj hFj=>?_,by simpa using hR.len,hR.wsl,fun k x hk=>?_⟩
  ·rcases hget k x hk with⟨rfl,rfl⟩ | ⟨n1,hk⟩
   ·show OwnS _ 1 T ((zs++[.sl sz ys none])++SV.evs ρ []) (ρ k)
    rw [hev2]
    refine .inr ⟨o2,ver2,cap2,pad2,by rw [g1];simp,xc g2,?_,fun y hy=>?_,by simpa using g5,g6⟩
    ·rw [hfb]
     rw [hfa] at g3
     simpa using g3
    ·rcases List.mem_append.1 hy with h|h
     ·exact g4 y (by simp [h])
     ·simp only [List.mem_singleton] at h
      subst h
      rfl
   ·refine SR.ok_of (f:=fun _=>true) (SR.all_mono (fun _ _=>rfl) x (hR.whp k x hk).2) (fun _ _=>rfl) (hR.hp.ok k x hk) fun j hj=>?_
    exact List.getElem?_set_ne fun e=>hR.hp.sep k b _ _ n1 hk hb j hj (by rw [g1,← e];rfl)
  ·rcases hget k x hk with⟨rfl,rfl⟩ | ⟨n1,q1⟩
   ·rcases hget k' x' hk' with⟨rfl,rfl⟩ | ⟨m1,q2⟩
    ·exact absurd rfl hne
    ·exact hR.hp.sep _ _ _ _ hne hb q2
   ·rcases hget k' x' hk' with⟨rfl,rfl⟩ | ⟨m1,q2⟩
    ·exact hR.hp.sep _ _ _ _ hne q1 hb
    ·exact hR.hp.sep _ _ _ _ hne q1 q2
  ·rcases hget k x hk with⟨rfl,rfl⟩ | ⟨n1,hk⟩
   ·exact hR.own _ _ hb j hj
   ·exact hR.own _ _ hk j hj
  ·refine (List.getElem?_set_ne fun e=>?_).trans (hR.low j hj hFj)
   rcases hR.own b _ hb o2 (by rw [g1];rfl) with q|q
   ·omega
   ·exact hFj (e▸q)
  ·rcases hget k x hk with⟨rfl,rfl⟩ | ⟨n1,hk⟩
   ·exact⟨(hR.whp _ _ hb).1,rfl⟩
   ·exact hR.whp k x hk
 have hr2:=h.run ⟨t,S.set o2 (.cells ver2 T (flat (zs++[.sl sz ys none])++pad2)),df⟩ ⟨ρ,⟨fun x hx=>?_,hF.nd,hF.rig,hF.le,hF.dz⟩,hP⟩
 ·exact⟨fun B0 w0 G a w hL hI=>by
   have hA2:=hI.agree.recell (cs':=flat (zs++[.sl sz ys none])++pad2) g2 (by rw [hfa,hfb];simp) fun i x x' v hx hx' hv2=>by
    rw [hfa] at hx
    rw [hfb] at hx'
    rcases q6a hx hx' with rfl | ⟨rfl,rfl⟩
    ·exact hv2
    ·exact hwk _ _ hv2
   exact hr2.run B0 w0 G a w hL (hI.restate (.refl G) hA2)⟩
 ·have hm:=hF.dm x hx
  refine⟨(List.getElem?_set_ne fun e=>?_).trans hm.1,hm.2⟩
  rw [← e] at hm
  rw [g2] at hm
  simp at hm⟩
section
variable {E : Env} {N : Nat} {ops : Array Oper} {nx : Nat} {sl : List (Nat × SV)} {H : Nat → Option SR} {k : Ef → Prop} {d : Option Tmp} {T : TypeId} {p : String} {af : Array Edge}
theorem evs_set (ρ : Nat→AV) (v:SV):∀ (cs:List SV) (i:Nat),SV.evs ρ (cs.set i v)=(SV.evs ρ cs).set i (v.ev ρ):=fun cs i=>by rw [jl,jl,List.map_set]
theorem evs_setF (ρ : Nat→AV) (zs:List AV) (v:SV) (cs:List SV) (i:Nat):zs++SV.evs ρ (cs.set i v)=(zs++SV.evs ρ cs).set (zs.length+i) (v.ev ρ):=by
 rw [evs_set,List.set_append_right _ _ (by omega),Nat.add_sub_cancel_left]
theorem rows_store {t e:TypeId} {x y:Operand} {b off i:Nat} {agg:Bool} {zs:List AV} {cs:List SV} {v:SV} (hx:sval N sl x=some (.bx b off)) (hy:sval N sl y=some v) (hH:H b=some (.rows e zs cs)) (ht:tyOf E.P t=some (1,agg)) (ho:off=0+(zs.length+i) * 1+0) (hi:i<cs.length) (hone:(v.one && v.okc)=true)
  (h:k ⟨.a (.v undef),[b],[(b,some (.rows e zs (cs.set i v)))],nx⟩):∃ e,Loc E N ops ⟨d,.store t x y,T,p,af,none⟩ nx sl H e∧k e:=by
 simp only [Bool.and_eq_true] at hone
 refine⟨_,fun df rd K rest ρ t' S hs hS hk=>?_,h⟩
 have hv1:=qpq ρ v hone.1
 have hvc:=qf5 hv1
 have hlen:(zs++SV.evs ρ cs).length=zs.length+cs.length:=by rw [List.length_append,jl,List.length_map]
 have hzi:(zs++SV.evs ρ cs)[zs.length+i]? = some ((zs++SV.evs ρ cs)[zs.length+i]'(by omega)):=List.getElem?_eq_getElem (by omega)
 rcases hS.ok b _ ((vn b).trans hH) with⟨e0,_⟩ | ⟨o,ver,cap,pad,e1,e2,e3,e4,e5,e6⟩
 ·rw [e0] at hlen
  simp at hlen
  omega
 ·subst ho
  have hzl:=e4 _ (List.mem_of_getElem? hzi)
  obtain⟨q1,q2⟩:=qzh (sz:=1) (j:=0) (us:=[v.ev ρ]) (z':=v.ev ρ) (pad:=pad) e4 hzi (by
   rw [hvc]
   unfold zh
   rw [List.take_zero,List.drop_eq_nil_of_le (by rw [hzl];simp)]
   rfl) (by simp)
  refine qea (o:=o) (ver:=ver) (off:=0+(zs.length+i) * 1+0) (xs:=(v.ev ρ).cells) ((qo hs hx).trans (by simp only [SV.ev,e1,bxAt])) (qo hs hy) e2 ht (qn7 ρ v hone.2) rfl (by rw [hvc];rfl) (by
   intro z hz
   rw [hvc] at hz
   simp only [List.mem_singleton] at hz
   subst hz
   exact hv1) (by
   have h1:(zs.length+i) * 1+1≤(zs++SV.evs ρ cs).length * 1:=by omega
   rw [List.length_append,zo e4]
   omega) ?_
  rw [hvc,q1,← evs_setF]
  have hw':∀ y∈zs++SV.evs ρ (cs.set i v),y.cells.length=1:=fun y hy=>by
   rw [evs_setF] at hy
   rcases List.mem_or_eq_of_mem_set hy with h|rfl
   ·exact e4 y h
   ·rw [hvc];rfl
  have hl2:(zs++SV.evs ρ (cs.set i v)).length=(zs++SV.evs ρ cs).length:=by rw [evs_setF,List.length_set]
  have key:∀ k r,chF [(b,some (SR.rows e zs (cs.set i v)))] (resF [b] H) k=some r→k=b∧r = .rows e zs (cs.set i v):=fun k r hk=>by
   simp only [chF,lkS] at hk
   by_cases e:b=k
   ·subst e
    have:Nat.beq b b=true:=by simp
    rw [this] at hk
    simp only [cond_true,Option.some.injEq] at hk
    exact⟨rfl,hk.symm⟩
   ·rw [zp e] at hk
    have:=(kh hk).1
    simp only [memN,List.any_cons,List.any_nil,Bool.or_false] at this
    exact absurd (Nat.eq_of_beq_eq_true this).symm e
  refine hk ρ _ ⟨fun _ _=>rfl,⟨fun k r hk=>?_,fun k k' r r' hne g1 g2=>?_⟩,by simp,fun j hj hne=>?_,fun k r hk o' ho'=>?_⟩
  ·obtain⟨rfl,rfl⟩:=key k r hk
   show OwnS _ 1 e (zs++SV.evs ρ (cs.set i v)) (ρ k)
   refine .inr ⟨o,ver,cap,pad,by rw [e1,hl2],xc e2,?_,hw',by rw [hl2];exact e5,e6⟩
   rw [List.length_append,zo hw',hl2,← zo e4,← List.length_append]
   exact e3
  ·exact absurd ((key k r g1).1.trans (key k' r' g2).1.symm) hne
  ·have:=hne b _ ((vn b).trans hH)
   rw [e1] at this
   exact List.getElem?_set_ne (fun e=>this (by rw [e];rfl))
  ·obtain⟨rfl,rfl⟩:=key k r hk
   exact .inr ⟨k,_,(vn k).trans hH,ho'⟩
end
end Go.Av
namespace Go.Av
open Go Go.RowKit
structure EntE (n0:Nat) (C C':Conf):Prop where
 ent:∃ σ,(rigN σ n0 && Nat.ble n0 C'.nx)=true∧EntC σ C C'
theorem entE {n0:Nat} {C C':Conf} (σ : List (Nat×Nat)) (h:(rigN σ n0 && Nat.ble n0 C'.nx)=true∧EntC σ C C'):EntE n0 C C':=⟨σ,h⟩
theorem sem_loopE {E:Env} {rd:Option Nat} {N:Nat} {B:Bs} {Q:Exit→Conf→Prop} {C:Conf} {X:Type} {c:Code} (I:X→Conf) (P:X→Prop) (μ : X→Nat) (x0:X) (h0:P x0) (he:EntE B.n0 C (I x0))
  (hr:∀ x,P x→Sm E rd N B c (fun e C'=>match e with
   | .normal=>∃ x',P x'∧μ x' < μ x∧EntE B.n0 C' (I x')
   |e=>Q e C') (I x)):Sm E rd N B (.loop c) Q C:=⟨fun s hs=>by
 refine vw (σ:=X) (fun x s=>P x∧∃ t',(∀ d,Wk (s.t d) (t' d))∧SatC B (I x) ⟨t',s.st,s.df⟩) μ x0 ?_ ?_
 ·obtain⟨t,S,df⟩:=s
  obtain⟨ρ,hdf,hR⟩:=hs
  simp only at hdf hR
  obtain⟨σ0,hr0,he⟩:=he.ent
  obtain⟨t',hw,hR'⟩:=he.sat hR
  exact⟨h0,t',hw,_,hdf.ren hr0,hR'⟩
 ·rintro x ⟨t,S,df⟩ ⟨hP,t',hw,hs⟩
  simp only at hw hs
  refine q1c hw (((hr x hP).run ⟨t',S,df⟩ hs).mono fun e s' ⟨C',hq,hs'⟩=>?_)
  cases e with
  |normal=>
   obtain⟨x',hP',hlt,he'⟩:=hq
   obtain⟨t2,S2,df2⟩:=s'
   obtain⟨ρ2,hdf2,hR2⟩:=hs'
   simp only at hdf2 hR2
   obtain⟨σ,hr2,he'⟩:=he'.ent
   obtain⟨t3,hw3,hR3⟩:=he'.sat hR2
   exact⟨x',⟨hP',t3,hw3,_,hdf2.ren hr2,hR3⟩,hlt⟩
  | _=>exact⟨C',hq,hs'⟩⟩
section
variable {E : Env} {N : Nat} {ops : Array Oper} {nx : Nat} {sl : List (Nat × SV)} {H : Nat → Option SR} {k : Ef → Prop} {d : Option Tmp} {T : TypeId} {p : String} {af : Array Edge}
theorem rows_appendA {x y:Operand} {t u e:TypeId} {b c bytes:Nat} {zs:List AV} {y0:AV} (hx:sval N sl x=some (.tp b)) (hH:H b=some (.rows e zs [])) (hy:sval N sl y=some (.tp c)) (hK:H c=some (.tip 1 e [y0])) (hbc:(!Nat.beq b c && !Nat.beq b nx && !Nat.beq c nx)=true)
  (ht:elT (E.P.underlying t)=some e) (hu:elT (E.P.underlying u)=some e) (hb:qnd E.P e=some (1,bytes)) (hn:(Nat.blt 0 bytes && Nat.ble bytes 140737)=true) (h1:zs.length+1≤1000000000) (hone:jq (flat [y0])=true)
  (h:k ⟨.tp nx,[b,c],[(b,none),(c,none),(nx,some (.rows e zs [.a y0]))],nx+1⟩):∃ e,Loc E N ops ⟨d,.call ⟨.builtin .append,#[x,y],#[t,u]⟩,T,p,af,none⟩ nx sl H e∧k e:=by
 simp only [Bool.and_eq_true] at hbc hn
 obtain⟨⟨b1,b2⟩,b3⟩:=hbc
 have nbc:b≠c:=fun e=>by subst e;simp at b1
 have nbn:b≠nx:=fun e=>by subst e;simp at b2
 have ncn:c≠nx:=fun e=>by subst e;simp at b3
 have hbl:=Nat.le_of_ble_eq_true hn.2
 refine⟨_,fun df rd K rest ρ t' S hs hS hk=>?_,h⟩
 have rb:resF [b,c] H b=some (.rows e zs []):=by unfold resF;simp [memN,hH]
 have rc:resF [b,c] H c=some (.tip 1 e [y0]):=by unfold resF;simp [memN,hK]
 obtain⟨ys,hys⟩:∃ ys,ys=[y0]:=⟨_,rfl⟩
 rw [← hys] at hone rc
 have hyl:ys.length=1:=by rw [hys];rfl
 have hy0:ys≠[]:=by rw [hys];simp
 have h1:zs.length+ys.length≤1000000000:=by omega
 have hmul:(zs.length+ys.length) * bytes≤140737488355328:=Nat.le_trans (Nat.mul_le_mul h1 hbl) (by decide)
 obtain⟨hwk,hc1⟩:=qpw (hS.ok c _ rc)
 have htr:tpAt (ρ c) = ρ c:=by unfold tpAt;rw [hc1];rfl
 rw [htr] at hwk
 have hw:∀ (G:Gh) (v:Value),Rel G (qf N ⟨t',S,df⟩ y) v→Rel G (.sl 1 ys none) v:=by
  have e1:qf N ⟨t',S,df⟩ y = ρ c:=(qo hs hy).trans (by simp only [SV.ev,tpAt,hc1,cond_true])
  rw [e1]
  exact hwk
 have hok:OwnS S 1 e zs (ρ b):=by
  have:OwnS S 1 e (zs++SV.evs ρ []) (ρ b):=hS.ok b _ rb
  simpa [SV.evs] using this
 have hev:qf N ⟨t',S,df⟩ x = ρ b:=(qo hs hx).trans (qb0 hok)
 have key:∀ k q,chF [(b,none),(c,none),(nx,some (SR.rows e zs [.a y0]))] (resF [b,c] H) k=some q→k=nx∧q = .rows e zs [.a y0]:=fun k q hk=>by
  simp only [chF,lkS] at hk
  by_cases e1:b=k
  ·subst e1;simp at hk
  ·rw [zp e1] at hk
   simp only [cond_false] at hk
   by_cases e2:c=k
   ·subst e2;simp at hk
   ·rw [zp e2] at hk
    simp only [cond_false] at hk
    by_cases e3:nx=k
    ·subst e3
     simp at hk
     exact⟨rfl,hk.symm⟩
    ·rw [zp e3] at hk
     simp only [cond_false] at hk
     have:=(kh hk).1
     simp only [memN,List.any_cons,List.any_nil,Bool.or_false,Bool.or_eq_true] at this
     rcases this with h|h
     ·exact absurd (Nat.eq_of_beq_eq_true h).symm e1
     ·exact absurd (Nat.eq_of_beq_eq_true h).symm e2
 have fin:∀ (a:AV) (S':List AObj),OwnS S' 1 e (zs++ys) a→S.length≤S'.length→(∀ j,j<S.length→qy (ρ b)≠some j→S'[j]? = S[j]?)→(∀ o,qy a=some o→S.length≤o∨qy (ρ b)=some o)→AOps E rd N ops rest K (AS.put ⟨t',S',df⟩ d a):=fun a S' q1 q2 q3 q4=>by
  have:=hk (upd ρ nx a) S' ⟨fun k hk=>vr _ _ (by simp only at hk;omega),⟨fun k r hk=>?_,fun k k' r r' hne z1 z2=>absurd ((key k r z1).1.trans (key k' r' z2).1.symm) hne⟩,q2,fun j hj hne=>q3 j hj (hne b _ ((by unfold resF;simp [memN,hH]):resF [b,c] H b=some (.rows e zs []))),fun k r hk o ho=>?_⟩
  ·simpa only [SV.ev,z8,qb0 q1] using this
  ·obtain⟨rfl,rfl⟩:=key k r hk
   rw [z8]
   show OwnS S' 1 e (zs++[y0]) a
   rw [← hys]
   exact q1
  ·obtain⟨rfl,rfl⟩:=key k r hk
   rw [z8] at ho
   exact (q4 o ho).imp_right fun h=>⟨b,_,rb,h⟩
 rcases hok with⟨rfl,e1⟩ | ⟨o,ver,cap,pad,e1,e2,e3,e4,e5,e6⟩
 ·refine qbr (by rw [hev];exact e1.val) hw (vm ht) (vm hu) (qcz hb) hone hy0 (by simp only [maxLen];simp only [List.length_nil] at h1;omega) (by simpa using hmul) fun cap pad q1 q2 q3 q4=>?_
  exact fin _ _ (.inr ⟨S.length,0,cap,pad,rfl,wl,q1,q2,q3,q4⟩) (by simp) (fun j hj _=>List.getElem?_append_left hj) fun o ho=>.inl (by simp only [qy,Option.some.injEq] at ho;omega)
 ·refine qin (o:=o) (hev.trans e1) hw (.os ver (cap+1) pad e3 e4 e5 e6) e2 (vm ht) (vm hu) (qcz hb) hone (by simp only [maxLen];omega) hmul fun a' ob' hV=>?_
  rcases qvs hV with⟨q,_,_⟩ | ⟨ver',cap',pad',rfl,rfl,q1,q2,q3,q4⟩
  ·simp [hy0] at q
  ·obtain⟨cap',rfl⟩:∃ c,cap'=c+1:=⟨cap' - 1,by
    have:0<ys.length:=List.length_pos_iff.2 hy0
    simp at q3
    omega⟩
   refine fin _ _ (.inr ⟨o,ver',cap',pad',rfl,xc e2,q1,q2,q3,q4⟩) (by simp) (fun j hj hne=>List.getElem?_set_ne fun e=>hne (by rw [e1,e];rfl)) fun o' ho'=>.inr (by rw [e1];exact ho')
end
end Go.Av
namespace Go.Proofs.YtejoahlpbckbeaaGreatDoor
open Go Go.Av Go.RowKit Go.Proofs Go.Pl
theorem row22_c (a b:List Fld) (st:List AObj) (ha:a.length<1000000):qn E 151 [zr a,zr b] st fun r st'=>r=Bv (decide (a=b))∧st'=st:=by
 refine jc [.a (zr a),.a (zr b)] (q8 _) Tryz.func151 rfl rfl (fun _=>rfl) rfl fun S0=>?_
 have hma:(a.map fldA).length=a.length:=by simp
 have hmb:(b.map fldA).length=b.length:=by simp
 by_cases hl:a.length=b.length
 ·apply qe []
  repeat' (first|apply And.intro|(intro h;try exact cDd)|exact cSd|apply qd []|refine exr ?_|refine qg ?_)
  refine vv (X:=Nat) (fun k=>⟨[(0,.a (zr a)),(1,.a (zr b)),(5,.i k)],[],0⟩) (fun k=>k≤a.length∧a.take k=b.take k) (fun k=>a.length - k) 0 ⟨by omega,by simp⟩ ?_ ?_
  ·skip
   repeat' (first|apply And.intro|(intro h;try exact cDd)|exact cSd|apply qd []|refine exr ?_|refine qg ?_)
   all_goals first|rfl|(simp;done)
  ·rintro k ⟨hk,ht⟩
   by_cases hkn:k<a.length
   ·have hx:a[k]? = some a[k]:=List.getElem?_eq_getElem hkn
    have hy:b[k]? = some (b[k]'(by omega)):=List.getElem?_eq_getElem (by omega)
    have hxm:(a.map fldA)[k]? = some (fldA a[k]):=by rw [List.getElem?_map,hx];rfl
    have hym:(b.map fldA)[k]? = some (fldA (b[k]'(by omega))):=by rw [List.getElem?_map,hy];rfl
    have h1:=qjy hx
    have h2:=qjy hy
    generalize a[k]=x at hx hxm h1
    generalize b[k]'(by omega)=y at hy hym h2
    by_cases hxy:x=y
    ·subst hxy
     have hq:x.1=x.1∧x.2=x.2∧True:=⟨rfl,rfl,trivial⟩
     apply qe []
     repeat' (first|apply And.intro|(intro h;try exact cDd)|(refine Exists.intro (k) ⟨by omega,_,hxm,?_⟩)|(refine Exists.intro (k) ⟨by omega,_,hym,?_⟩)|(refine q6w q13 rfl rfl rfl rfl rfl ?_)|exact absurd hq (by assumption)|(refine Exists.intro (k+1) ⟨⟨by omega,by rw [h1,h2,ht]⟩,by omega,?_⟩)|exact cSd|apply qd []|refine exr ?_|refine qg ?_)
     all_goals first|rfl|(simp;done)
    ·have hne:=q9l hx hy hxy
     rw [decide_eq_false hne]
     have hq:¬ (x.1=y.1∧x.2=y.2∧True):=fun h=>hxy (Prod.ext h.1 h.2.1)
     apply qe []
     repeat' (first|apply And.intro|(intro h;try exact cDd)|(refine Exists.intro (k) ⟨by omega,_,hxm,?_⟩)|(refine Exists.intro (k) ⟨by omega,_,hym,?_⟩)|(refine q6w q13 rfl rfl rfl rfl rfl ?_)|exact absurd (by assumption) hq|exact absurd hq (by assumption)|exact cSd|apply qd []|refine exr ?_|refine qg ?_)
     all_goals first|rfl|(simp;done)
   ·have hkn:k=a.length:=by omega
    subst hkn
    rw [List.take_length,hl,List.take_length] at ht
    rw [decide_eq_true ht]
    apply qe []
    repeat' (first|apply And.intro|(intro h;try exact cDd)|exact cSd|apply qd []|refine exr ?_|refine qg ?_)
 ·rw [decide_eq_false fun e=>hl (congrArg List.length e)]
  apply qe []
  repeat' (first|apply And.intro|(intro h;try exact cDd)|exact cSd|apply qd []|refine exr ?_|refine qg ?_)
theorem costs_pureC (a b:List (List Fld)) (n:Nat):Pure (.sl 1 (yb a b n) none):=qa7 fun x hx=>by
 obtain⟨f,_,rfl⟩:=List.mem_map.1 hx
 intro y hy
 simp only [AV.cells,List.mem_singleton] at hy
 subst hy
 exact qco _
theorem drop_cons {α β : Type} (g : α→β) {l r:List α} {i:Nat} {x : α} (h:l.drop i=x::r):i<l.length∧r=l.drop (i+1)∧(l.map g)[i]? = some (g x):=by
 have hi:i<l.length:=by
  rcases Nat.lt_or_ge i l.length with h'|h'
  ·exact h'
  ·rw [List.drop_eq_nil_of_le h'] at h
   simp at h
 rw [List.drop_eq_getElem_cons hi] at h
 simp only [List.cons.injEq] at h
 refine⟨hi,h.2.symm,?_⟩
 rw [List.getElem?_map,List.getElem?_eq_getElem hi,h.1]
 rfl
theorem costI_near (a b:List (List Fld)) (i j:Nat):(jd a b i (j+1)≤jd a b i j+1∧jd a b i j≤jd a b i (j+1)+1)∧jd a b (i+1) j≤jd a b i j+1∧jd a b i j≤jd a b (i+1) j+1:=by
 obtain⟨⟨h1,h2⟩,h3,h4⟩:=qi3 a b (i+j) i j (Nat.le_refl _)
 unfold jd
 omega
set_option maxHeartbeats 2000000 in
theorem costs22_c (a b:List (List Fld)) (st:List AObj) (ha:a.length<1000000) (hb:b.length<1000000) (hf:∀ r∈a,r.length<1000000):qn E 150 [kf a,kf b] st fun r st'=>r = .sl 1 (yb a b (a.length+1)) none∧st'=st:=by
 refine qh3 [.a (kf a),.a (kf b)] (costs_pureC a b _) Tryz.func150 rfl rfl (fun _=>rfl) rfl fun S0=>?_
 have hma:(a.map zr).length=a.length:=by simp
 have hmb:(b.map zr).length=b.length:=by simp
 apply qe []
 repeat' (first|apply And.intro|(intro h;try exact cDd)|exact cSd|apply qd []|refine exr ?_|refine qg ?_)
 refine vv (X:=Nat) (fun i=>⟨[(0,.a (kf a)),(1,.a (kf b)),(5,.tp 0),(6,.i i)],[(0,some (.rows 75 (yb a b i) []))],1⟩) (fun i=>i≤a.length+1) (fun i=>a.length+1 - i) 0 (by omega) ?_ ?_
 ·skip
  repeat' (first|apply And.intro|(intro h;try exact cDd)|exact cSd|apply qd []|refine exr ?_|refine qg ?_)
  all_goals first|rfl|(simp [SV.evs,SV.rens,SV.ren,SV.ev];done)
 ·rintro i hi
  have hcl:=qdn a b i
  have hcn:=qqe a b i (.tp 1)
  by_cases hin:i<a.length+1
  ·apply qe [17]
   repeat' (first|apply And.intro|(intro h;try exact cDd)|(refine rows_appendA rfl rfl rfl rfl rfl rfl rfl rfl rfl (by omega) rfl ?_)|exact cSd|apply qd [17]|refine exr ?_|refine qg ?_)
   refine sem_loopE (X:=Nat) (fun j=>⟨[(0,.a (kf a)),(1,.a (kf b)),(5,.tp 0),(6,.i i),(7,.i j)],[(0,some (.rows 75 (yb a b i) [.tp 1])),(1,some (.tip 1 3 ((rowF a b i j).map fun n=>Iv n)))],2⟩) (fun j=>j≤b.length+1) (fun j=>b.length+1 - j) 0 (by omega) (entE [(0,2)] ?_) ?_
   ·skip
    repeat' (first|apply And.intro|(intro h;try exact cDd)|exact cSd|apply qd []|refine exr ?_|refine qg ?_)
    all_goals first|rfl|(simp [SV.evs,SV.rens,SV.ren,SV.ev];done)
   ·rintro j hj
    have hrl:=qc6 a b i j
    by_cases hjn:j<b.length+1
    ·have hsn:(rowF a b i (j+1)).map (fun n=>Iv n)=(rowF a b i j).map (fun n=>Iv n)++[Iv (jd a b i j)]:=by rw [q3c,List.map_append];rfl
     have p0:=qb5 a b i j
     cases i with
     |zero=>
      have e0:=q7k a b j
      cases j with
      |zero=>
       generalize jd a b 0 0=c0 at *
       apply qe []
       repeat' (first|apply And.intro|(intro h;try exact cDd)|(refine qf8 (i:=0) rfl rfl rfl (ix64 (by omega)) rfl rfl (by simp only [List.length_cons,List.length_nil];omega) ?_)|(refine qf9 (i:=0) rfl rfl rfl rfl hcn rfl ?_)|(refine rows_store (i:=0) rfl rfl rfl rfl (by omega) (by simp) rfl ?_)|(refine Exists.intro (0+1) ⟨by omega,by omega,?_⟩)|(refine entE [(0,0),(1,2)] ?_)|exact cSd|apply qd []|refine exr ?_|refine qg ?_)
       all_goals first|rfl|(rw [hsn];exact congrArg (fun z:Int=>_++[Iv z]) (by omega))|(simp [SV.evs,SV.rens,SV.ren,SV.ev];done)
      |succ j=>
       have g3:=qff a b 0 (n:=j+1) (j:=j) (by omega)
       have e1:=q7k a b j
       generalize jd a b 0 (j+1)=c0 at *
       generalize jd a b 0 j=c1 at *
       apply qe []
       repeat' (first|apply And.intro|(intro h;try exact cDd)|(refine Exists.intro (j) ⟨by omega,_,g3,?_⟩)|(refine qf8 (i:=0) rfl rfl rfl (ix64 (by omega)) rfl rfl (by simp only [List.length_cons,List.length_nil];omega) ?_)|(refine qf9 (i:=0) rfl rfl rfl rfl hcn rfl ?_)|(refine rows_store (i:=0) rfl rfl rfl rfl (by omega) (by simp) rfl ?_)|(refine Exists.intro ((j+1)+1) ⟨by omega,by omega,?_⟩)|(refine entE [(0,0),(1,2)] ?_)|exact cSd|apply qd []|refine exr ?_|refine qg ?_)
       all_goals first|rfl|(rw [hsn];exact congrArg (fun z:Int=>_++[Iv z]) (by omega))|(simp [SV.evs,SV.rens,SV.ren,SV.ev];done)
     |succ i=>
      have hr1:=q1q a b (show i<i+1 by omega) [.tp 1]
      cases j with
      |zero=>
       have g1:=qff a b i (n:=b.length+1) (j:=0) (by omega)
       have e0:=qo7 a b (i+1)
       have e1:=qo7 a b i
       generalize jd a b (i+1) 0=c0 at *
       generalize jd a b i 0=c1 at *
       apply qe []
       repeat' (first|apply And.intro|(intro h;try exact cDd)|(refine Exists.intro (0) ⟨by omega,_,g1,?_⟩)|(refine qf8 (i:=(i+1)) rfl rfl rfl (ix64 (by omega)) rfl rfl (by simp only [List.length_cons,List.length_nil];omega) ?_)|(refine qf9 (i:=(i+1)) rfl rfl rfl rfl hcn rfl ?_)|(refine qf8 (i:=i) rfl rfl rfl (ix64 (by omega)) rfl rfl (by simp only [List.length_cons,List.length_nil];omega) ?_)|(refine qf9 (i:=i) rfl rfl rfl rfl hr1 rfl ?_)|(refine rows_store (i:=0) rfl rfl rfl rfl (by omega) (by simp) rfl ?_)|(refine Exists.intro (0+1) ⟨by omega,by omega,?_⟩)|(refine entE [(0,0),(1,2)] ?_)|exact cSd|apply qd []|refine exr ?_|refine qg ?_)
       all_goals first|rfl|(rw [hsn];exact congrArg (fun z:Int=>_++[Iv z]) (by omega))|(simp [SV.evs,SV.rens,SV.ren,SV.ev];done)
      |succ j=>
       have g1:=qff a b i (n:=b.length+1) (j:=j+1) (by omega)
       have g2:=qff a b i (n:=b.length+1) (j:=j) (by omega)
       have g3:=qff a b (i+1) (n:=j+1) (j:=j) (by omega)
       have p1:=qb5 a b i (j+1)
       have p2:=qb5 a b i j
       have p3:=qb5 a b (i+1) j
       have n1:=costI_near a b i j
       have hx:=qh9 (R:=a) (k:=i) (by omega)
       have hy:=qh9 (R:=b) (k:=j) (by omega)
       have hs:=fun st=>row22_c (a[i]'(by omega)) (b[j]'(by omega)) st (hf _ (List.getElem_mem _))
       have hsame:=@qy2 _ _ a b i j
       have hoth:=@qwc _ _ a b i j
       have ei:a[i]? = some (a[i]'(by omega)):=List.getElem?_eq_getElem (by omega)
       have ej:b[j]? = some (b[j]'(by omega)):=List.getElem?_eq_getElem (by omega)
       rw [ei,ej,Option.some.injEq] at hsame hoth
       generalize a[i]'(by omega)=x at *
       generalize b[j]'(by omega)=y at *
       generalize jd a b (i+1) (j+1)=c0 at *
       generalize jd a b i (j+1)=c1 at *
       generalize jd a b (i+1) j=c3 at *
       generalize jd a b i j=c2 at *
       by_cases hxy:x=y
       ·rw [decide_eq_true hxy] at hs
        have hc:=hsame hxy
        apply qe []
        repeat' (first|apply And.intro|(intro h;try exact cDd)|(refine Exists.intro ((j+1)) ⟨by omega,_,g1,?_⟩)|(refine Exists.intro (j) ⟨by omega,_,g2,?_⟩)|(refine Exists.intro (j) ⟨by omega,_,g3,?_⟩)|(refine Exists.intro (i) ⟨by omega,_,hx,?_⟩)|(refine Exists.intro (j) ⟨by omega,_,hy,?_⟩)|exact⟨Tryz.call151⟩|refine cpe hs ?_|(refine qf8 (i:=(i+1)) rfl rfl rfl (ix64 (by omega)) rfl rfl (by simp only [List.length_cons,List.length_nil];omega) ?_)|(refine qf9 (i:=(i+1)) rfl rfl rfl rfl hcn rfl ?_)|(refine qf8 (i:=i) rfl rfl rfl (ix64 (by omega)) rfl rfl (by simp only [List.length_cons,List.length_nil];omega) ?_)|(refine qf9 (i:=i) rfl rfl rfl rfl hr1 rfl ?_)|(refine rows_store (i:=0) rfl rfl rfl rfl (by omega) (by simp) rfl ?_)|(refine Exists.intro ((j+1)+1) ⟨by omega,by omega,?_⟩)|(refine entE [(0,0),(1,2)] ?_)|exact cSd|apply qd []|refine exr ?_|refine qg ?_)
        all_goals first|rfl|(rw [hsn];exact congrArg (fun z:Int=>_++[Iv z]) (by omega))|(simp [SV.evs,SV.rens,SV.ren,SV.ev];done)
       ·rw [decide_eq_false hxy] at hs
        have hc:=hoth hxy
        apply qe []
        repeat' (first|apply And.intro|(intro h;try exact cDd)|(refine Exists.intro ((j+1)) ⟨by omega,_,g1,?_⟩)|(refine Exists.intro (j) ⟨by omega,_,g2,?_⟩)|(refine Exists.intro (j) ⟨by omega,_,g3,?_⟩)|(refine Exists.intro (i) ⟨by omega,_,hx,?_⟩)|(refine Exists.intro (j) ⟨by omega,_,hy,?_⟩)|exact⟨Tryz.call151⟩|refine cpe hs ?_|(refine qf8 (i:=(i+1)) rfl rfl rfl (ix64 (by omega)) rfl rfl (by simp only [List.length_cons,List.length_nil];omega) ?_)|(refine qf9 (i:=(i+1)) rfl rfl rfl rfl hcn rfl ?_)|(refine qf8 (i:=i) rfl rfl rfl (ix64 (by omega)) rfl rfl (by simp only [List.length_cons,List.length_nil];omega) ?_)|(refine qf9 (i:=i) rfl rfl rfl rfl hr1 rfl ?_)|(refine rows_store (i:=0) rfl rfl rfl rfl (by omega) (by simp) rfl ?_)|(refine Exists.intro ((j+1)+1) ⟨by omega,by omega,?_⟩)|(refine entE [(0,0),(1,2)] ?_)|exact cSd|apply qd []|refine exr ?_|refine qg ?_)
        all_goals first|rfl|(rw [hsn];exact congrArg (fun z:Int=>_++[Iv z]) (by omega))|(simp [SV.evs,SV.rens,SV.ren,SV.ev];done)
    ·have hjn:j=b.length+1:=by omega
     subst hjn
     have hsn:yb a b (i+1)=yb a b i++[.sl 1 ((rowF a b i (b.length+1)).map fun n=>Iv n) none]:=qy3 a b i
     refine sem_wkR (b:=0) (r:=1) rfl rfl ?_
     apply qe []
     repeat' (first|apply And.intro|(intro h;try exact cDd)|(refine Exists.intro (i+1) ⟨by omega,by omega,?_⟩)|exact cSd|apply qd []|refine exr ?_|refine qg ?_)
     all_goals first|rfl|(rw [hsn];done)|(simp [SV.evs,SV.rens,SV.ren,SV.ev];done)
  ·have hin:i=a.length+1:=by omega
   subst hin
   refine qw3 (b:=0) rfl ?_
   apply qe []
   repeat' (first|apply And.intro|(intro h;try exact cDd)|exact cSd|apply qd []|refine exr ?_|refine qg ?_)
set_option maxHeartbeats 8000000 in
theorem way22_c (a b:List (List Fld)) (st:List AObj) (ha:a.length<1000000) (hb:b.length<1000000) (hf:∀ r∈a,r.length<1000000):qn E 96 [kf a,kf b] st fun r st'=>r=qdf (wayF a b)∧st'=st:=by
 refine jc [.a (kf a),.a (kf b)] (qco _) Tryz.func96 rfl rfl (fun _=>rfl) rfl fun S0=>?_
 have hma:(a.map zr).length=a.length:=by simp
 have hmb:(b.map zr).length=b.length:=by simp
 have hwl:=qmh a b
 have hcs:=fun st=>costs22_c a b st ha hb hf
 have hcl:=qdn a b (a.length+1)
 apply qe []
 repeat' (first|apply And.intro|(intro h;try exact cDd)|exact⟨Tryz.call150⟩|refine cpe hcs ?_|exact cSd|apply qd []|refine exr ?_|refine qg ?_)
 refine vv (X:=List Int×Nat×Nat×Nat) (fun (out,n,i,j)=>⟨[(0,.a (kf a)),(1,.a (kf b)),(5,.a (.sl 1 (yb a b (a.length+1)) none)),(6,.a (qdf out.reverse)),(7,.i i),(8,.i j)],[],0⟩) (fun (out,n,i,j)=>qd9 a b out n i j) (fun (out,n,i,j)=>i+j) ([],a.length+b.length,a.length,b.length) (q3z a b) ?_ ?_
 ·skip
  repeat' (first|apply And.intro|(intro h;try exact cDd)|exact cSd|apply qd []|refine exr ?_|refine qg ?_)
  all_goals first|rfl|(simp;done)
 ·rintro⟨out,n,i,j⟩ hW
  have h1:=hW.hi
  have h2:=hW.hj
  have hol:out.length≤a.length+b.length:=by
   have:=congrArg List.length hW.eq
   rw [List.length_reverse,List.length_append] at this
   omega
  have hml:(out.reverse.map fun n=>Iv n).length=out.length:=by simp
  have hrv:∀ w:Int,(out++[w]).reverse.map (fun n=>Iv n)=[Iv w]++out.reverse.map fun n=>Iv n:=fun w=>by simp
  by_cases h0:i=0∧j=0
  ·obtain⟨rfl,rfl⟩:=h0
   have he:=q9s hW
   rw [← he]
   apply qe [109]
   repeat' (first|apply And.intro|(intro h;try exact cDd)|exact cSd|apply qd [109]|refine exr ?_|refine qg ?_)
   all_goals first|rfl|(simp;done)
  ·obtain⟨m,hm,hM⟩:=q6j hW h0
   have hle:=q47 a b i j
   have hr0:=qi4 a b (show i<a.length+1 by omega)
   have g0:=qff a b i (n:=b.length+1) (j:=j) (by omega)
   have p0:=qb5 a b i j
   cases i with
   |zero=>
    obtain⟨j,rfl⟩:∃ k,j=k+1:=⟨j - 1,by omega⟩
    have hn:qf3 0 (j+1) (decide (a[0 - 1]? = b[j+1 - 1]?)) (jd a b (0 - 1) (j+1 - 1)) (jd a b (0 - 1) (j+1)) (jd a b 0 (j+1))=4:=by simp [qf3]
    rw [hn] at hle
    rw [← hle] at hM
    have hM:qd9 a b (out++[4]) m 0 j:=by simpa using hM
    have hv:=hrv 4
    apply qe [109]
    repeat' (first|apply And.intro|(intro h;try exact cDd)|(refine Exists.intro (out++[4],m,0,j) ⟨hM,by simp only;omega,?_⟩)|exact cSd|apply qd [109]|refine exr ?_|refine qg ?_)
    all_goals first|rfl|exact Or.inl (show 1+(out.reverse.map fun n=>Iv n).length≤1000000000 by omega)|exact congrArg (fun l=>AV.sl 1 l none) hv.symm|exact congrArg (fun n:Int=>Iv n) (by omega)|(simp;done)|omega
   |succ i=>
    have hr1:=qi4 a b (show i<a.length+1 by omega)
    have g1:=qff a b i (n:=b.length+1) (j:=j) (by omega)
    have p1:=qb5 a b i j
    cases j with
    |zero=>
     have e1:jd a b (i+1) 0=jd a b i 0+1:=by rw [qo7,qo7];omega
     have hn:qf3 (i+1) 0 (decide (a[i+1 - 1]? = b[0 - 1]?)) (jd a b (i+1 - 1) (0 - 1)) (jd a b (i+1 - 1) 0) (jd a b (i+1) 0)=3:=by
      unfold qf3
      rw [if_neg (by omega),if_neg (by omega),if_pos ⟨by omega,by simp only [Nat.add_sub_cancel];omega⟩]
     rw [hn] at hle
     rw [← hle] at hM
     have hM:qd9 a b (out++[3]) m i 0:=by simpa using hM
     have hv:=hrv 3
     generalize jd a b (i+1) 0=c0 at *
     generalize jd a b i 0=c1 at *
     apply qe [109]
     repeat' (first|apply And.intro|(intro h;try exact cDd)|(refine Exists.intro ((i+1)) ⟨by omega,_,hr0,?_⟩)|(refine Exists.intro (i) ⟨by omega,_,hr1,?_⟩)|(refine Exists.intro (0) ⟨by omega,_,g0,?_⟩)|(refine Exists.intro (0) ⟨by omega,_,g1,?_⟩)|(refine Exists.intro (out++[3],m,i,0) ⟨hM,by simp only;omega,?_⟩)|exact cSd|apply qd [109]|refine exr ?_|refine qg ?_)
     all_goals first|rfl|exact Or.inl (show 1+(out.reverse.map fun n=>Iv n).length≤1000000000 by omega)|exact congrArg (fun l=>AV.sl 1 l none) hv.symm|exact congrArg (fun n:Int=>Iv n) (by omega)|(simp;done)|omega
    |succ j=>
     simp only [Nat.add_sub_cancel] at hle
     have hx:=qh9 (R:=a) (k:=i) (by omega)
     have hy:=qh9 (R:=b) (k:=j) (by omega)
     have hs:=fun st=>row22_c (a[i]'(by omega)) (b[j]'(by omega)) st (hf _ (List.getElem_mem _))
     have g2:=qff a b i (n:=b.length+1) (j:=j) (by omega)
     have p2:=qb5 a b i j
     have ei:a[i]? = some (a[i]'(by omega)):=List.getElem?_eq_getElem (by omega)
     have ej:b[j]? = some (b[j]'(by omega)):=List.getElem?_eq_getElem (by omega)
     rw [ei,ej] at hle
     simp only [Option.some.injEq] at hle
     generalize a[i]'(by omega)=x at *
     generalize b[j]'(by omega)=y at *
     generalize jd a b (i+1) (j+1)=c0 at *
     generalize jd a b i (j+1)=c1 at *
     generalize jd a b i j=c2 at *
     have hl:∀ q:Bool,qf3 (i+1) (j+1) q c2 c1 c0=if q=true∧c2=c0 then 1 else if c2=c0 - 1 then 2 else if c1=c0 - 1 then 3 else 4:=fun q=>by
      unfold qf3
      simp
     rw [hl] at hle
     generalize v6 a b (i+1) (j+1)=w at *
     have hv:=hrv w
     have hw:(w=1∧x=y∧c2=c0)∨(w=2∧¬ (x=y∧c2=c0)∧c2=c0 - 1)∨(w=3∧¬ (x=y∧c2=c0)∧c2≠c0 - 1∧c1=c0 - 1)∨(w=4∧¬ (x=y∧c2=c0)∧c2≠c0 - 1∧c1≠c0 - 1):=by
      simp only [decide_eq_true_eq] at hle
      split at hle
      ·exact .inl ⟨hle.symm,by assumption⟩
      ·split at hle
       ·exact .inr (.inl ⟨hle.symm,by assumption,by assumption⟩)
       ·split at hle
        ·exact .inr (.inr (.inl ⟨hle.symm,by assumption,by assumption,by assumption⟩))
        ·exact .inr (.inr (.inr ⟨hle.symm,by assumption,by assumption,by assumption⟩))
     clear hle hl
     rcases hw with⟨rfl,hxy,h3⟩ | ⟨rfl,hxy,h3⟩ | ⟨rfl,hxy,h3,h4⟩ | ⟨rfl,hxy,h3,h4⟩
     ·have hM:qd9 a b (out++[1]) m i j:=by simpa using hM
      rw [decide_eq_true hxy] at hs
      apply qe [109]
      repeat' (first|apply And.intro|(intro h;try exact cDd)|(refine Exists.intro ((i+1)) ⟨by omega,_,hr0,?_⟩)|(refine Exists.intro (i) ⟨by omega,_,hr1,?_⟩)|(refine Exists.intro ((j+1)) ⟨by omega,_,g0,?_⟩)|(refine Exists.intro ((j+1)) ⟨by omega,_,g1,?_⟩)|(refine Exists.intro (j) ⟨by omega,_,g2,?_⟩)|(refine Exists.intro (i) ⟨by omega,_,hx,?_⟩)|(refine Exists.intro (j) ⟨by omega,_,hy,?_⟩)|exact⟨Tryz.call151⟩|refine cpe hs ?_|(refine Exists.intro (out++[1],m,i,j) ⟨hM,by simp only;omega,?_⟩)|exact cSd|apply qd [109]|refine exr ?_|refine qg ?_)
      all_goals first|rfl|exact Or.inl (show 1+(out.reverse.map fun n=>Iv n).length≤1000000000 by omega)|exact congrArg (fun l=>AV.sl 1 l none) hv.symm|exact congrArg (fun n:Int=>Iv n) (by omega)|(simp;done)|(exfalso;simp_all;done)
     ·have hM:qd9 a b (out++[2]) m i j:=by simpa using hM
      cases hq:decide (x=y)
      all_goals
       rw [hq] at hs
       apply qe [109]
       repeat' (first|apply And.intro|(intro h;try exact cDd)|(refine Exists.intro ((i+1)) ⟨by omega,_,hr0,?_⟩)|(refine Exists.intro (i) ⟨by omega,_,hr1,?_⟩)|(refine Exists.intro ((j+1)) ⟨by omega,_,g0,?_⟩)|(refine Exists.intro ((j+1)) ⟨by omega,_,g1,?_⟩)|(refine Exists.intro (j) ⟨by omega,_,g2,?_⟩)|(refine Exists.intro (i) ⟨by omega,_,hx,?_⟩)|(refine Exists.intro (j) ⟨by omega,_,hy,?_⟩)|exact⟨Tryz.call151⟩|refine cpe hs ?_|(refine Exists.intro (out++[2],m,i,j) ⟨hM,by simp only;omega,?_⟩)|exact cSd|apply qd [109]|refine exr ?_|refine qg ?_)
       all_goals first|rfl|exact Or.inl (show 1+(out.reverse.map fun n=>Iv n).length≤1000000000 by omega)|exact congrArg (fun l=>AV.sl 1 l none) hv.symm|exact congrArg (fun n:Int=>Iv n) (by omega)|(simp;done)|(exfalso;simp_all;done)
     ·have hM:qd9 a b (out++[3]) m i (j+1):=by simpa using hM
      cases hq:decide (x=y)
      all_goals
       rw [hq] at hs
       apply qe [109]
       repeat' (first|apply And.intro|(intro h;try exact cDd)|(refine Exists.intro ((i+1)) ⟨by omega,_,hr0,?_⟩)|(refine Exists.intro (i) ⟨by omega,_,hr1,?_⟩)|(refine Exists.intro ((j+1)) ⟨by omega,_,g0,?_⟩)|(refine Exists.intro ((j+1)) ⟨by omega,_,g1,?_⟩)|(refine Exists.intro (j) ⟨by omega,_,g2,?_⟩)|(refine Exists.intro (i) ⟨by omega,_,hx,?_⟩)|(refine Exists.intro (j) ⟨by omega,_,hy,?_⟩)|exact⟨Tryz.call151⟩|refine cpe hs ?_|(refine Exists.intro (out++[3],m,i,j+1) ⟨hM,by simp only;omega,?_⟩)|exact cSd|apply qd [109]|refine exr ?_|refine qg ?_)
       all_goals first|rfl|exact Or.inl (show 1+(out.reverse.map fun n=>Iv n).length≤1000000000 by omega)|exact congrArg (fun l=>AV.sl 1 l none) hv.symm|exact congrArg (fun n:Int=>Iv n) (by omega)|(simp;done)|(exfalso;simp_all;done)
     ·have hM:qd9 a b (out++[4]) m (i+1) j:=by simpa using hM
      cases hq:decide (x=y)
      all_goals
       rw [hq] at hs
       apply qe [109]
       repeat' (first|apply And.intro|(intro h;try exact cDd)|(refine Exists.intro ((i+1)) ⟨by omega,_,hr0,?_⟩)|(refine Exists.intro (i) ⟨by omega,_,hr1,?_⟩)|(refine Exists.intro ((j+1)) ⟨by omega,_,g0,?_⟩)|(refine Exists.intro ((j+1)) ⟨by omega,_,g1,?_⟩)|(refine Exists.intro (j) ⟨by omega,_,g2,?_⟩)|(refine Exists.intro (i) ⟨by omega,_,hx,?_⟩)|(refine Exists.intro (j) ⟨by omega,_,hy,?_⟩)|exact⟨Tryz.call151⟩|refine cpe hs ?_|(refine Exists.intro (out++[4],m,i+1,j) ⟨hM,by simp only;omega,?_⟩)|exact cSd|apply qd [109]|refine exr ?_|refine qg ?_)
       all_goals first|rfl|exact Or.inl (show 1+(out.reverse.map fun n=>Iv n).length≤1000000000 by omega)|exact congrArg (fun l=>AV.sl 1 l none) hv.symm|exact congrArg (fun n:Int=>Iv n) (by omega)|(simp;done)|(exfalso;simp_all;done)
theorem refRows22_c (l:qp) (st:List AObj) (hl:l.ents.length<1000000):qn E 49 [rlistA l] st fun r st'=>r=kf (jt l)∧st'=st:=by
 refine jc [.a (rlistA l)] (qh7 _) Tryz.func49 rfl rfl (fun _=>rfl) rfl fun S0=>?_
 have hz:=fun st=>refStanzas07_c l st hl
 have hsl:=qc8 l.ents
 unfold jt
 generalize stzF l.ents=s at *
 have hms:(s.map stzA).length=s.length:=by simp
 apply qe []
 repeat' (first|apply And.intro|(intro h;try exact cDd)|exact⟨Tryz.call95⟩|refine cpe hz ?_|exact cSd|apply qd []|refine exr ?_|refine qg ?_)
 refine vv (X:=Nat) (fun k=>⟨[(3,.tp 0),(4,.a (qsl s)),(5,.i k)],[(0,some (.tip 1 70 (((s.take k).map Prod.snd).map zr)))],1⟩) (fun k=>k≤s.length) (fun k=>s.length - k) 0 (by omega) ?_ ?_
 ·skip
  repeat' (first|apply And.intro|(intro h;try exact cDd)|exact cSd|apply qd []|refine exr ?_|refine qg ?_)
  all_goals first|rfl|(simp;done)
 ·rintro k hk
  by_cases hkn:k<s.length
  ·have hx:s[k]? = some s[k]:=List.getElem?_eq_getElem hkn
   have hxm:(s.map stzA)[k]? = some (stzA s[k]):=by rw [List.getElem?_map,hx];rfl
   have htk:=qjy hx
   have htl:(((s.take k).map Prod.snd).map zr).length≤s.length:=by simp;omega
   generalize s[k]=x at hx hxm htk
   apply qe []
   repeat' (first|apply And.intro|(intro h;try exact cDd)|(refine Exists.intro (k) ⟨by omega,_,hxm,?_⟩)|(refine Exists.intro (k+1) ⟨by omega,by omega,?_⟩)|exact cSd|apply qd []|refine exr ?_|refine qg ?_)
   all_goals first|rfl|(rw [htk];simp;done)|(simp;omega)
  ·have hkn:k=s.length:=by omega
   subst hkn
   rw [List.take_length]
   apply qe []
   repeat' (first|apply And.intro|(intro h;try exact cDd)|exact cSd|apply qd []|refine exr ?_|refine qg ?_)
set_option maxHeartbeats 1000000 in
theorem refEdits22_c (text:qc) (R:List (List Fld)) (st:List AObj) (hrl:R.length<1000000):qn E 48 [rlistA (ofF (itsE text)),kf R] st fun r st'=>r=yr (va (ofF (itsE text)) R)∧st'=st:=by
 have hB:=yg text
 have hI:=qcr text
 have hb1:=hB.len
 have hb2:=hB.nx0
 have hb3:=hB.nx1
 have hz:=fun st=>refStanzas07_c (ofF (itsE text)) st (by omega)
 have hr:=fun st=>refRows22_c (ofF (itsE text)) st (by omega)
 have hsl:=qc8 (ofF (itsE text)).ents
 have hw:=fun st=>way22_c (jt (ofF (itsE text))) R st (by unfold jt;rw [List.length_map];omega) hrl fun r hr=>by
  unfold jt at hr
  obtain⟨s,hs,rfl⟩:=List.mem_map.1 hr
  obtain⟨e,he,rfl⟩:=List.mem_map.1 hs
  have:=(hI e (List.mem_filter.1 he).1).2
  simp only
  omega
 have hwl:=qmh (jt (ofF (itsE text))) R
 have hrll:(jt (ofF (itsE text))).length=(stzF (ofF (itsE text)).ents).length:=by simp [jt]
 have hst:=q4v (qp0 (stzF (ofF (itsE text)).ents) R) 0 (ofF (itsE text)).next
 refine jc [.a (rlistA (ofF (itsE text))),.a (kf R)] (qgi _) Tryz.func48 rfl rfl (fun _=>rfl) rfl fun S0=>?_
 unfold va
 unfold jt at hw hwl hrll hr
 generalize ofF (itsE text)=l at *
 generalize hws:wayF ((stzF l.ents).map Prod.snd) R=ws at *
 generalize stzF l.ents=S1 at *
 generalize zb ws S1 R 0 l.next=full at *
 have hml:(ws.map fun n=>Iv n).length=ws.length:=by simp
 have hms:(S1.map stzA).length=S1.length:=by simp
 have hmr:(R.map zr).length=R.length:=by simp
 apply qe []
 repeat' (first|apply And.intro|(intro h;try exact cDd)|exact⟨Tryz.call95⟩|refine cpe hz ?_|exact⟨Tryz.call49⟩|refine cpe hr ?_|exact⟨Tryz.call96⟩|refine cpe hw ?_|exact cSd|apply qd []|refine exr ?_|refine qg ?_)
 refine vv (X:=Nat×Nat×Nat×Int×Int×List qr) (fun (k,i,j,bh,nx,out)=>⟨[(1,.a (kf R)),(5,.a (qsl S1)),(6,.a (qdf ws)),(7,.tp 0),(8,.i i),(9,.i j),(10,.i bh),(11,.i nx),(12,.i k)],[(0,some (.tip 3 72 (out.map x2)))],1⟩)
  (fun (k,i,j,bh,nx,out)=>(k≤ws.length∧EdAt full out (ws.drop k) (S1.drop i) (R.drop j) bh nx)∧out.length≤k∧0≤nx∧nx≤l.next+k∧i≤S1.length∧j≤R.length) (fun (k,_)=>ws.length - k) (0,0,0,0,l.next,[]) ⟨⟨by omega,by simpa using hst⟩,by simp,by omega,by omega,by omega,by omega⟩ ?_ ?_
 ·skip
  repeat' (first|apply And.intro|(intro h;try exact cDd)|exact cSd|apply qd []|refine exr ?_|refine qg ?_)
  all_goals first|rfl|(simp;done)
 ·rintro⟨k,i,j,bh,nx,out⟩ ⟨⟨hk,hE⟩,ho,hn0,hn1,hS,hQ⟩
  have hmo:(out.map x2).length=out.length:=by simp
  by_cases hkn:k<ws.length
  ·have hx:ws[k]? = some ws[k]:=List.getElem?_eq_getElem hkn
   have hxm:(ws.map fun n=>Iv n)[k]? = some (Iv ws[k]):=by rw [List.getElem?_map,hx];rfl
   rw [List.drop_eq_getElem_cons hkn] at hE
   generalize ws[k]=w at hx hxm hE
   have hSd:∀ {s:Int×List Fld} {S':List (Int×List Fld)},S1.drop i=s::S'→i<S1.length∧S'=S1.drop (i+1)∧(S1.map stzA)[i]? = some (stzA s):=fun {s S'} h=>drop_cons stzA h
   have hRd:∀ {s:List Fld} {S':List (List Fld)},R.drop j=s::S'→j<R.length∧S'=R.drop (j+1)∧(R.map zr)[j]? = some (zr s):=fun {s S'} h=>drop_cons zr h
   rcases q7x hE with⟨rfl,s,S',Q',h1,h2,hE⟩ | ⟨rfl,s,S',r,Q',h1,h2,hE⟩ | ⟨rfl,s,S',h1,hE⟩ | ⟨rfl,r,Q',h2,hE⟩
   ·obtain⟨a1,rfl,a3⟩:=hSd h1
    obtain⟨b1,rfl,b3⟩:=hRd h2
    apply qe []
    repeat' (first|apply And.intro|(intro h;try exact cDd)|(refine Exists.intro (k) ⟨by omega,_,hxm,?_⟩)|(refine Exists.intro (i) ⟨by omega,_,a3,?_⟩)|(refine Exists.intro (j) ⟨by omega,_,b3,?_⟩)|(refine Exists.intro (k+1,i+1,j+1,s.1,nx,out) ⟨⟨⟨by omega,hE⟩,by omega,by omega,by omega,by omega,by omega⟩,by simp only;omega,?_⟩)|exact cSd|apply qd []|refine exr ?_|refine qg ?_)
    all_goals first|rfl|(simp;done)
   ·obtain⟨a1,rfl,a3⟩:=hSd h1
    obtain⟨b1,rfl,b3⟩:=hRd h2
    apply qe []
    repeat' (first|apply And.intro|(intro h;try exact cDd)|(refine Exists.intro (k) ⟨by omega,_,hxm,?_⟩)|(refine Exists.intro (i) ⟨by omega,_,a3,?_⟩)|(refine Exists.intro (j) ⟨by omega,_,b3,?_⟩)|(refine Exists.intro (k+1,i+1,j+1,s.1,nx,out++[⟨1,s.1,r⟩]) ⟨⟨⟨by omega,hE⟩,by simp;omega,by omega,by omega,by omega,by omega⟩,by simp only;omega,?_⟩)|exact cSd|apply qd []|refine exr ?_|refine qg ?_)
    all_goals first|rfl|(simp;done)
   ·obtain⟨a1,rfl,a3⟩:=hSd h1
    apply qe []
    repeat' (first|apply And.intro|(intro h;try exact cDd)|(refine Exists.intro (k) ⟨by omega,_,hxm,?_⟩)|(refine Exists.intro (i) ⟨by omega,_,a3,?_⟩)|(refine Exists.intro (k+1,i+1,j,bh,nx,out++[⟨2,s.1,[]⟩]) ⟨⟨⟨by omega,hE⟩,by simp;omega,by omega,by omega,by omega,by omega⟩,by simp only;omega,?_⟩)|exact cSd|apply qd []|refine exr ?_|refine qg ?_)
    all_goals first|rfl|(simp;done)
   ·obtain⟨b1,rfl,b3⟩:=hRd h2
    apply qe []
    repeat' (first|apply And.intro|(intro h;try exact cDd)|(refine Exists.intro (k) ⟨by omega,_,hxm,?_⟩)|(refine Exists.intro (j) ⟨by omega,_,b3,?_⟩)|(refine Exists.intro (k+1,i,j+1,nx,nx+1,out++[⟨3,bh,r⟩]) ⟨⟨⟨by omega,hE⟩,by simp;omega,by omega,by omega,by omega,by omega⟩,by simp only;omega,?_⟩)|exact cSd|apply qd []|refine exr ?_|refine qg ?_)
    all_goals first|rfl|(simp;done)
  ·have hkn:k=ws.length:=by omega
   subst hkn
   rw [List.drop_length] at hE
   obtain⟨h1,h2⟩:=q8v hE.ok
   rw [h1,h2] at hE
   have hfull:=zae hE
   rw [hfull]
   apply qe []
   repeat' (first|apply And.intro|(intro h;try exact cDd)|exact cSd|apply qd []|refine exr ?_|refine qg ?_)
end Go.Proofs.YtejoahlpbckbeaaGreatDoor
