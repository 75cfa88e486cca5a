/- Contracts and plain facts that the closing text leans on (part 9). No condition of their own beyond those that each states. -/
import Derived.Test.YtmoklbacdkmkaaaGreatDoorK8
import Derived.Lib.ItoaNum
import Derived.Lib.AtoiAll
import Derived.Lib.Repeat
set_option maxRecDepth 100000
set_option linter.unusedVariables false
set_option linter.unusedSimpArgs false
namespace Go.Av
open Go Go.RowKit
section
variable {E : Env} {rd : Option Nat} {N : Nat} {ops : Array Oper} {K : AS → Prop} {s : AS} {rest : List Oper} {d : Option Tmp} {T : TypeId} {p : String} {af : Array Edge}
theorem aops_neg {x:Operand} {t:TypeId} {k:IntKind} {m r:Int} (hx:qf N s x = .v (.int k m)) (hr:k.wrap (0 - m)=r)
  (h:AOps E rd N ops rest K (s.put d (.v (.int k r)))):AOps E rd N ops (⟨d,.unOp .neg t x,T,p,af,none⟩::rest) K s:=
 z4 _ rfl nofun (fun a w he=>by rw [← hr];simp [execOp,he _ _ hx,Op.unary,Op.intArith]) h
end
end Go.Av
namespace Go.Av
open Go Go.RowKit
section
variable {E : Env} {rd : Option Nat} {N : Nat} {ops : Array Oper} {K : AS → Prop} {s : AS} {rest : List Oper} {d : Option Tmp} {T : TypeId} {p : String} {af : Array Edge}
theorem aops_addN {x y:Operand} {t t':TypeId} {k:IntKind} {m n:Nat} (hx:qf N s x = .v (.int k (m:Int))) (hy:qf N s y = .v (.int k (n:Int))) (hf:k.wrap ((m+n:Nat):Int)=((m+n:Nat):Int))
  (h:AOps E rd N ops rest K (s.put d (.v (.int k ((m+n:Nat):Int))))):AOps E rd N ops (⟨d,.binOp .add t x y t',T,p,af,none⟩::rest) K s:=
 zv hx hy (by rw [← Int.natCast_add];exact hf) h
theorem aops_quoN {x y:Operand} {t t':TypeId} {k:IntKind} {m n:Nat} (hx:qf N s x = .v (.int k (m:Int))) (hy:qf N s y = .v (.int k (n:Int))) (hn:n≠0) (hf:k.wrap ((m / n:Nat):Int)=((m / n:Nat):Int))
  (h:AOps E rd N ops rest K (s.put d (.v (.int k ((m / n:Nat):Int))))):AOps E rd N ops (⟨d,.binOp .quo t x y t',T,p,af,none⟩::rest) K s:=
 q6f hx hy (by omega) (by rw [Int.tdiv_eq_ediv_of_nonneg (by omega),← Int.natCast_ediv];exact hf) h
theorem aops_remN {x y:Operand} {t t':TypeId} {k:IntKind} {m n:Nat} (hx:qf N s x = .v (.int k (m:Int))) (hy:qf N s y = .v (.int k (n:Int))) (hn:n≠0)
  (h:AOps E rd N ops rest K (s.put d (.v (.int k ((m % n:Nat):Int))))):AOps E rd N ops (⟨d,.binOp .rem t x y t',T,p,af,none⟩::rest) K s:=
 q5v hx hy (by omega) (by rw [Int.tmod_eq_emod_of_nonneg (by omega),← Int.natCast_emod];exact h)
theorem wrapU64 {n:Nat} (h:n<18446744073709551616):IntKind.u64.wrap (n:Int)=(n:Int):=by
 simp [IntKind.wrap,IntKind.bits,IntKind.signed]
 omega
end
end Go.Av
namespace Go.Pl
open Go
theorem digit_piece {u:Nat} (h:u<10):(([48,49,50,51,52,53,54,55,56,57]:Bytes).take (u+1)).drop u=Lib.decDigits u:=by
 rw [Lib.decDigits_one h]
 have:u=0∨u=1∨u=2∨u=3∨u=4∨u=5∨u=6∨u=7∨u=8∨u=9:=by omega
 rcases this with rfl|rfl|rfl|rfl|rfl|rfl|rfl|rfl|rfl|rfl <;> rfl
theorem decDigits_len_le {u:Nat} (h:u<18446744073709551616):(Lib.decDigits u).length≤20:=by
 rw [Lib.decDigits_length]
 exact qgu 19 u (by omega)
end Go.Pl
namespace Go.Proofs.YtmoklbacdkmkaaaGreatDoor
open Go Go.Av Go.RowKit Go.Proofs Go.Pl
theorem unsigned_c:∀ (n u:Nat),u<n→u<18446744073709551616→∀ st,qn E 204 [.v (.int .u64 (u:Int))] st fun r st'=>r=Sv (Lib.decDigits u)∧st'=st
 | 0,_,h,_,_=>absurd h (Nat.not_lt_zero _)
 |n+1,u,hu,h64,st=>by
  refine q7 (q6 _) (qo Tryz.func204 rfl (Nat.le_of_ble_eq_true rfl) ?_)
  have hl1:=decDigits_len_le (u:=u / 10) (by omega)
  have hl2:=decDigits_len_le (u:=u % 10) (by omega)
  by_cases h10:u<10
  ·skip
   repeat' (first|apply qk|apply qc|apply qd|apply qj|apply qe|(apply qq;(iterate 3 exact rfl))|(apply qa;exact rfl;apply kl;exact cAo)|(apply qbr;(iterate 4 exact rfl);exact cAs;exact cAs)|apply qr|(apply aops_addN (n:=1);exact rfl;exact rfl;exact wrapU64 (by omega)))
   exact ql rfl (zb rfl) ⟨congrArg Sv (digit_piece h10),_,rfl⟩
  ·have ih1:=unsigned_c n (u / 10) (by omega) (by omega)
   have ih2:=unsigned_c n (u % 10) (by omega) (by omega)
   repeat' (first|apply qk|apply qc|apply qd|apply qj|apply qe|(apply qq;(iterate 3 exact rfl))|(apply qa;exact rfl;apply ko;exact cAo)|(apply jq;exact rfl;exact rfl;exact cOs)|apply qs|apply qr|(apply aops_quoN (n:=10);exact rfl;exact rfl;omega;exact wrapU64 (by omega))|(apply aops_remN (n:=10);exact rfl;exact rfl;omega)|(apply qg;exact Tryz.call204;exact ih1 _)|(apply qg;exact Tryz.call204;exact ih2 _))
   exact ql rfl (zb rfl) ⟨congrArg Sv (qcf h10).symm,_,rfl⟩
theorem refFigures_c (k:Nat) (st:List AObj) (hk:k≤9223372036854775807):qn E 157 [Iv k] st fun r st'=>r=Sv (Lib.itoa k)∧st'=st:=by
 refine q7 (q6 _) (qo Tryz.func157 rfl (Nat.le_of_ble_eq_true rfl) ?_)
 have hneg:¬ (k:Int)<0:=by omega
 repeat' (first|apply qk|apply qc|apply qd|apply qj|apply qe|(apply qq;(iterate 3 exact rfl))|(apply qa;exact rfl;apply ko;exact cAo)|apply qs|apply qr|(apply qpl;(iterate 3 exact rfl);exact wrapU64 (by omega))|(apply qg;exact Tryz.call204;exact unsigned_c (k+1) k (by omega) (by omega) _))
 exact ql rfl (zb rfl) ⟨congrArg Sv (by unfold Lib.itoa;rw [if_neg hneg];simp),_,rfl⟩
theorem refFiguresZ_c (v:Int) (st:List AObj) (h1 : -9223372036854775808≤v) (h2:v≤9223372036854775807):qn E 157 [Iv v] st fun r st'=>r=Sv (Lib.itoa v)∧st'=st:=by
 by_cases hneg:v<0
 ·refine q7 (q6 _) (qo Tryz.func157 rfl (Nat.le_of_ble_eq_true rfl) ?_)
  have hl:=decDigits_len_le (u:=v.natAbs) (by omega)
  have hk:IntKind.u64.wrap (-(v+1))=((v.natAbs - 1:Nat):Int):=by
   rw [show -(v+1)=((v.natAbs - 1:Nat):Int) by omega]
   exact wrapU64 (by omega)
  have hk2:IntKind.u64.wrap (((v.natAbs - 1:Nat):Int)+1)=((v.natAbs:Nat):Int):=by
   rw [show ((v.natAbs - 1:Nat):Int)+1=((v.natAbs:Nat):Int) by omega]
   exact wrapU64 (by omega)
  repeat' (first|apply qk|apply qc|apply qd|apply qj|apply qe|(apply qq;(iterate 3 exact rfl))|(apply qa;exact rfl;apply kl;exact cAo)|(apply jq;exact rfl;exact rfl;exact cOs)|(apply zv;exact rfl;exact rfl;exact q5 (by omega) (by omega))|apply qr|(apply aops_neg;exact rfl;exact (show IntKind.i64.wrap (0 - (v+1)) = -(v+1) from by rw [q5 (by omega) (by omega)];omega))|(apply qpl;(iterate 3 exact rfl);exact hk)|(apply zv;exact rfl;exact rfl;exact hk2)|(apply qg;exact Tryz.call204;exact unsigned_c (v.natAbs+1) v.natAbs (by omega) (by omega) _))
  exact ql rfl (zb rfl) ⟨congrArg Sv (qhn hneg).symm,_,rfl⟩
 ·obtain⟨k,rfl⟩:=Int.eq_ofNat_of_zero_le (by omega:0≤v)
  exact refFigures_c k st (by omega)
end Go.Proofs.YtmoklbacdkmkaaaGreatDoor
namespace Go.Proofs.YtmoklbacdkmkaaaGreatDoor
open Go Go.Pl
theorem beginL_no10:(10:UInt8)∉zw:=by decide
theorem digs_itoa {n:Nat} {s r:Bytes} {c:UInt8} (hc:qqg c=false) (h:s=Lib.itoa (n:Int)++c::r):s.takeWhile qqg=Lib.itoa (n:Int):=by
 subst h
 have hd:=q5r n
 rw [List.takeWhile_append_of_pos (fun x hx=>by simp only [qqg,decide_eq_true_eq];exact hd x hx),List.takeWhile_cons_of_neg (by simp [hc]),List.append_nil]
theorem tw_self {p:UInt8→Bool} {l:Bytes}:l.takeWhile p=l↔∀ c∈l,p c=true:=by
 induction l with
 |nil=>simp
 |cons b l ih=>
  by_cases h:p b=true
  ·rw [List.takeWhile_cons_of_pos h];simp [ih,h]
  ·rw [List.takeWhile_cons_of_neg h];simp [h]
theorem digs_all {n:Nat}:(Lib.itoa (n:Int)).takeWhile qqg=Lib.itoa (n:Int):=by
 rw [tw_self]
 intro x hx
 simp only [qqg,decide_eq_true_eq]
 exact q5r n x hx
theorem first_num {s:Bytes} (hs:s≠[]) (h:q9 (zw++s)≠(3,[],0)):∃ n:Nat,1≤n∧n≤50000∧s.takeWhile qqg=Lib.itoa (n:Int)∧(s=Lib.itoa (n:Int)∨2≤n∧∃ r,s=Lib.itoa (n:Int)++32::r∧(10∉r→r.length≤8∧xy r)∧(10∈r→(upto 10 r).length=8∧xy (upto 10 r))):=by
 have e10:10∈zw++s↔10∈s:=by simp [beginL_no10]
 have ed:(zw++s).drop 7=s:=by rw [show (7:Nat)=zw.length by rfl,List.drop_left]
 by_cases h10:10∈s
 ·have ho:(zz (upto 10 (zw++s))).2.2=true:=by
   cases hq:(zz (upto 10 (zw++s))).2.2 with
   |true=>rfl
   |false=>exact absurd (q9u (fun _=>hq) (fun h'=>absurd (e10.2 h10) h')) h
  have eu:upto 10 (zw++s)=zw++upto 10 s:=by
   conv=>lhs;rw [y9 h10,← List.append_assoc]
   exact w9 _ (by simp [beginL_no10,qde])
  rw [eu] at ho
  simp only [zz,decide_eq_true_eq,qkv] at ho
  obtain⟨_,o2,o3,o4,o5⟩:=ho
  have hn:=qfy (l:=upto 32 (upto 10 s)) rfl (by omega)
  have hle:=qb0 (upto 32 (upto 10 s))
  generalize vd (upto 32 (upto 10 s))=n at *
  have e1:=y9 o2
  rw [hn] at e1
  have e2:=y9 h10
  generalize hf:past 32 (upto 10 s)=f at *
  have hf10:10∉f:=by
   have:=qde 10 s
   rw [e1] at this
   simp only [List.mem_append,List.mem_cons,not_or] at this
   exact this.2.2
  rw [e1,List.append_assoc,List.cons_append] at e2
  refine⟨n,by omega,hle,digs_itoa (by decide) e2,.inr ⟨o3,_,e2,fun h'=>absurd (by simp:(10:UInt8)∈f++10::past 10 s) h',fun _=>?_⟩⟩
  rw [w9 _ hf10]
  exact⟨o4,o5⟩
 ·have ho:qee (zw++s)=true:=by
   cases hq:qee (zw++s) with
   |true=>rfl
   |false=>exact absurd (q9u (fun h'=>absurd (e10.1 h') h10) (fun _=>hq)) h
  unfold qee at ho
  rw [if_pos (List.prefix_append _ _),ed] at ho
  obtain⟨o1,o2,o3,o4⟩:=of_decide_eq_true ho
  by_cases h32:32∈s
  ·have hn2:2≤vd (upto 32 s):=by
    rcases Nat.lt_or_ge (vd (upto 32 s)) 2 with h|h
    ·exact absurd ⟨h32,h⟩ o1
    ·exact h
   have hn:=qfy (l:=upto 32 s) rfl (by omega)
   have hle:=qb0 (upto 32 s)
   generalize vd (upto 32 s)=n at *
   have e1:=y9 h32
   rw [hn] at e1
   refine⟨n,by omega,hle,digs_itoa (by decide) e1,.inr ⟨hn2,_,e1,fun _=>⟨o3,o4⟩,fun h'=>absurd (e1▸by simp [h']:(10:UInt8)∈s) h10⟩⟩
  ·rw [qeg h32] at o2
   have hpos:1≤vd s:=by
    rcases Nat.eq_zero_or_pos (vd s) with h|h
    ·exact absurd ⟨hs,h⟩ o2
    ·exact h
   have hn:=qfy (l:=s) rfl hpos
   have hle:=qb0 s
   generalize vd s=n at *
   subst hn
   exact⟨n,hpos,hle,digs_all,.inl rfl⟩
theorem itoa_inj {m n:Nat} (hm:m≤50000) (hn:n≤50000) (h:Lib.itoa (m:Int)=Lib.itoa (n:Int)):m=n:=by
 have:=congrArg numZ h
 rw [q1x (by omega) (by omega),q1x (by omega) (by omega)] at this
 simp at this
 omega
theorem R6 {n:Nat} (h1:1≤n) (h2:n≤50000):q9 (zw++Lib.itoa (n:Int))=(2,[],0):=by
 have h32:32∉Lib.itoa (n:Int):=qg2 n (by decide)
 have h10:10∉zw++Lib.itoa (n:Int):=by
  simp only [List.mem_append,not_or]
  exact⟨beginL_no10,qg2 n (by decide)⟩
 have ed:(zw++Lib.itoa (n:Int)).drop 7=Lib.itoa (n:Int):=by rw [show (7:Nat)=zw.length by rfl,List.drop_left]
 unfold q9
 rw [if_neg h10,if_pos ?_]
 unfold qee
 rw [if_pos (List.prefix_append _ _),ed,qeg h32,ql9 h1 h2]
 have hp:past 32 (Lib.itoa (n:Int))=[]:=by unfold past;rw [qeg h32];simp
 rw [hp]
 exact decide_eq_true ⟨fun h'=>h32 h'.1,fun h'=>by omega,by simp,by intro c hc;simp at hc⟩
theorem R7 {n:Nat} {c:UInt8} {r:Bytes} (h2:n≤50000) (hd:qqg c=false) (h:c≠32∨n<2):q9 (zw++(Lib.itoa (n:Int)++c::r))=(3,[],0):=by
 refine Classical.byContradiction fun hc=>?_
 obtain⟨m,m1,m2,m3,m4⟩:=first_num (by simp) hc
 rw [digs_itoa hd rfl] at m3
 have e:=itoa_inj h2 m2 m3
 subst e
 rcases m4 with m4 | ⟨m4,r2,m5,_⟩
 ·have:=congrArg List.length m4
  simp at this
 ·rw [List.append_cancel_left_eq,List.cons.injEq] at m5
  rcases h with h|h
  ·exact h m5.1
  ·omega
end Go.Proofs.YtmoklbacdkmkaaaGreatDoor
namespace Go.Proofs.YtmoklbacdkmkaaaGreatDoor
open Go Go.Av Go.RowKit Go.Proofs Go.Pl
theorem q63.l6 {l S:Bytes} {K n:Nat} (A:q63 l S K n) (h:K=S.length):q9 l=(2,[],0):=by
 have e:S=Lib.itoa (n:Int):=by rw [← A.hD,h,List.take_length]
 rw [A.hl,e]
 exact R6 A.h1 A.h2
theorem q63.l7 {l S:Bytes} {K n:Nat} (A:q63 l S K n) (h:K<S.length) (hc:S.getD K 0≠32∨n<2):q9 l=(3,[],0):=by
 obtain⟨e,hd⟩:=A.split h
 rw [A.hl,e]
 exact R7 A.h2 hd hc
end Go.Proofs.YtmoklbacdkmkaaaGreatDoor
namespace Go.Proofs.YtmoklbacdkmkaaaGreatDoor
open Go Go.Av Go.RowKit Go.WideShapes Go.ChangeShapes Go.Deep Go.Proofs Go.Pl
theorem arg_st {H:Type} {enc:TypeId×Value→H} {P:Program} {W:World} {r:Reach} {b0:Nat} {t:TypeId} {fs:Array Field} {S:AV→Prop} {v:Value} {d:DataW H} {ps:List MemPlace} (hu:P.underlying t=some (.struct fs)) (hO:Opn P t S) (hS:∀ a,S a→∃ us,a = .ag us) (hval:Value.okWide P W r b0 t v) (hd:DataW.Trod enc P W 0 (fun _=>true) true t v d ps) :
  ∃ a,S a∧Rel (gW W) a v:=by
 obtain⟨cs,rfl,_⟩:=okWide_struct hu hval
 obtain⟨fuel,hf⟩:=hd
 obtain⟨y,hy,hr⟩:=hO H enc W fuel _ _ hf
 obtain⟨us,rfl⟩:=hS y hy
 exact⟨_,hy,.ag us cs (by simpa [AV.cells,Value.cells] using hr.1) fun i x z hx hz=>hr.2 i x z hx (by simpa [Value.cells] using hz)⟩
end Go.Proofs.YtmoklbacdkmkaaaGreatDoor
namespace Go.Pl
open Go
def outF:List Bytes→List Int→List Bytes
 |w::ws,n::ns=>w::Lib.itoa n::outF ws ns
 | _,_=>[]
theorem outF_snoc:∀ (ws:List Bytes) (ns:List Int) (k:Nat) (w:Bytes) (n:Int),ws[k]? = some w→ns[k]? = some n→outF (ws.take (k+1)) (ns.take (k+1))=outF (ws.take k) (ns.take k)++[w,Lib.itoa n]
 |w'::ws,n'::ns,0,w,n,h1,h2=>by
  simp only [List.getElem?_cons_zero,Option.some.injEq] at h1 h2
  subst h1
  subst h2
  simp [outF]
 |w'::ws,n'::ns,k+1,w,n,h1,h2=>by
  have:=outF_snoc ws ns k w n (by simpa using h1) (by simpa using h2)
  simp [outF,this]
 | [],_,_,_,_,h1,_=>by simp at h1
 | _::_,[],_,_,_,_,h2=>by simp at h2
def figF (w:Bytes) (n:Int):Bytes:=w++[32]++Lib.itoa n
structure RepV where
 gen:Int
 stanzas:Int
 remarks:Int
 blanks:Int
 records:Int
 live:Int
 bytes:Int
 base:Int
 tail:Int
 text:Int
def wGen:Bytes:=[103,101,110]
def wStanzas:Bytes:=[115,116,97,110,122,97,115]
def wRemarks:Bytes:=[114,101,109,97,114,107,115]
def wBlanks:Bytes:=[98,108,97,110,107,115]
def wRecords:Bytes:=[114,101,99,111,114,100,115]
def wLive:Bytes:=[108,105,118,101]
def wBytes:Bytes:=[98,121,116,101,115]
def wBase:Bytes:=[98,97,115,101]
def wTail:Bytes:=[116,97,105,108]
def wText:Bytes:=[116,101,120,116]
def line1 (r:RepV):Bytes:=figF wGen r.gen++[32]++figF wStanzas r.stanzas++[32]++figF wRemarks r.remarks++[32]++figF wBlanks r.blanks
def line2 (r:RepV):Bytes:=figF wRecords r.records++[32]++figF wLive r.live
def line3 (r:RepV):Bytes:=figF wBytes r.bytes++[32]++figF wBase r.base++[32]++figF wTail r.tail++[32]++figF wText r.text
def linesR (r:RepV):List Bytes:=[line1 r,line2 r,line3 r]
structure RepI (r:RepV):Prop where
 gen:i64 r.gen
 stanzas:i64 r.stanzas
 remarks:i64 r.remarks
 blanks:i64 r.blanks
 records:i64 r.records
 live:i64 r.live
 bytes:i64 r.bytes
 base:i64 r.base
 tail:i64 r.tail
 text:i64 r.text
def worthF (r:RepV) (p:Int):Bool:=decide (0≤p∧p≤100∧0≤r.bytes∧r.bytes≤2147483648∧0≤r.text∧r.text≤2147483648∧100 * r.text<p * r.bytes)
theorem itoaI_len {n:Int} (h:i64 n):(Lib.itoa n).length≤20:=by
 unfold i64 at h
 by_cases h0:0≤n
 ·obtain⟨k,rfl⟩:∃ k:Nat,n=(k:Int):=⟨n.toNat,by omega⟩
  have:=qif k (by omega)
  omega
 ·unfold Lib.itoa
  rw [if_pos (by omega)]
  have:(Lib.decDigits n.natAbs).length≤19:=by
   rw [Lib.decDigits_length]
   exact qgu 18 _ (by omega)
  simp
  omega
theorem join4 (a b c d e f g h:Bytes):Lib.join [a,b,c,d,e,f,g,h] [32]=a++[32]++b++[32]++(c++[32]++d)++[32]++(e++[32]++f)++[32]++(g++[32]++h):=by simp [Lib.join,List.intercalate]
theorem join2 (a b c d:Bytes):Lib.join [a,b,c,d] [32]=a++[32]++b++[32]++(c++[32]++d):=by simp [Lib.join,List.intercalate]
end Go.Pl
namespace Go.Proofs.YtmoklbacdkmkaaaGreatDoor
open Go Go.Av Go.RowKit Go.Proofs Go.Pl
theorem splitSp_c (l:List UInt8) (st:List AObj) (hl:l.length<4294967281):qn E 154 [Sv l,Sv [32]] st fun r st'=>r = .sl 1 ((Lib.splitK [32] 0 (Lib.count l [32]) l).map fun x=>Sv x) none∧st'=st:=by
 have hd:=Lib.splitB_data ⟨#[32]⟩ 0 (Lib.countB ⟨l.toArray⟩ ⟨#[32]⟩) ⟨l.toArray⟩
 have hn:=Lib.splitB_all ⟨#[32]⟩ (by simp [ByteArray.size]) 0 _ ⟨l.toArray⟩ rfl
 have hd2:(Lib.splitB ⟨#[32]⟩ 0 (Lib.countB ⟨l.toArray⟩ ⟨#[32]⟩) ⟨l.toArray⟩).map (·.data.toList)=Lib.splitK [32] 0 (Lib.count l [32]) l:=hd
 have hlen:(Lib.splitK [32] 0 (Lib.count l [32]) l).length=Lib.countB ⟨l.toArray⟩ ⟨#[32]⟩+1:=by rw [← hd2,List.length_map,hn]
 refine qld (T:=9) (vals:= #[.string ⟨l.toArray⟩,.string ⟨#[32]⟩]) rfl (fun e=>by rw [e] at hlen;simp at hlen) fun _ _ w hL hb=>(Tryz.strings_Split_shaped ⟨l.toArray⟩ ⟨#[32]⟩ w (hL w hb).shaped (by simpa [ByteArray.size] using hl) (by simp [ByteArray.size])).mono fun e w' ⟨h1,h2⟩=>?_
 refine⟨by rw [h1,hlen],?_⟩
 rw [h2,← hd2,List.map_map]
 rfl
theorem aline_c (words:Bytes) (ws:List Bytes) (ns:List Int) (st:List AObj) (hw:Lib.splitK [32] 0 (Lib.count words [32]) words=ws) (hl:words.length<1000000) (hn:ns.length=ws.length) (hi:∀ x∈ns,i64 x) (hk:ws.length<1000) (hj:(Lib.join (outF ws ns) [32]).length≤1000000) :
  qn E 89 [Sv words,qdg ns] st fun r st'=>r=Sv (Lib.join (outF ws ns) [32])∧st'=st:=by
 refine vc [.s words,.a (qdg ns)] (q6 _) Tryz.func89 rfl rfl (fun _=>rfl) rfl fun S0=>?_
 have hsp:=fun st=>splitSp_c words st (by omega)
 rw [hw] at hsp
 have hml:(ws.map fun x=>Sv x).length=ws.length:=by simp
 have hmn:(ns.map fun x=>Iv x).length=ns.length:=by simp
 have hol:∀ (ws:List Bytes) (ns:List Int),(outF ws ns).length≤2 * ws.length:=by
  intro ws
  induction ws with
  |nil=>intro ns;simp [outF]
  |cons w ws ih=>intro ns;cases ns with
   |nil=>simp [outF]
   |cons n ns=>have:=ih ns;simp [outF];omega
 apply qh []
 repeat' (first|apply And.intro|(intro h;try exact cDd)|exact⟨Tryz.call154⟩|refine cpe hsp ?_|exact cSd|apply qb []|refine exr ?_|refine qm ?_)
 refine yt (X:=Nat) (fun k=>⟨[(1,.a (qdg ns)),(5,.tp 0),(9,.a (.sl 1 (ws.map fun x=>Sv x) none)),(10,.i ws.length),(11,.i k)],[(0,some (.tip 1 9 ((outF (ws.take k) (ns.take k)).map fun x=>Sv x)))],1⟩) (fun k=>k≤ws.length) (fun k=>ws.length - k) 0 (by omega) ?_ ?_
 ·skip
  repeat' (first|apply And.intro|(intro h;try exact cDd)|exact cSd|apply qb []|refine exr ?_|refine qm ?_)
  all_goals first|rfl|(simp [outF];done)
 ·rintro k hk'
  by_cases hkn:k<ws.length
  ·have hx:ws[k]? = some ws[k]:=List.getElem?_eq_getElem hkn
   have hxm:(ws.map fun x=>Sv x)[k]? = some (Sv ws[k]):=by rw [List.getElem?_map,hx];rfl
   have hy:ns[k]? = some (ns[k]'(by omega)):=List.getElem?_eq_getElem (by omega)
   have hym:(ns.map fun x=>Iv x)[k]? = some (Iv (ns[k]'(by omega))):=by rw [List.getElem?_map,hy];rfl
   have hii:=hi _ (List.getElem_mem (show k<ns.length by omega))
   have hsn:=outF_snoc ws ns k _ _ hx hy
   have hol1:=hol (ws.take k) (ns.take k)
   have hol2:(ws.take k).length≤ws.length:=by simp;omega
   generalize ws[k]=w at hx hxm hsn
   generalize ns[k]'(by omega)=n at hy hym hii hsn
   unfold i64 at hii
   have hit:=fun st=>qlf n st hii.1 hii.2
   apply qh []
   repeat' (first|apply And.intro|(intro h;try exact cDd)|(refine Exists.intro (k) ⟨by omega,_,hxm,?_⟩)|(refine Exists.intro (k) ⟨by omega,_,hym,?_⟩)|exact⟨Tryz.call155⟩|refine cpe hit ?_|(refine Exists.intro (k+1) ⟨by omega,by omega,?_⟩)|exact cSd|apply qb []|refine exr ?_|refine qm ?_)
   all_goals first|(rw [hsn];simp;done)|(simp;omega)
  ·have hkn:k=ws.length:=by omega
   subst hkn
   rw [List.take_length,← hn,List.take_length]
   have hjo:=fun st=>q2v (outF ws ns) none [32] st (by have:=hol ws ns;omega) (by omega)
   rw [hn]
   apply qh []
   repeat' (first|apply And.intro|(intro h;try exact cDd)|exact⟨Tryz.call156⟩|refine cpe hjo ?_|exact cSd|apply qb []|refine exr ?_|refine qm ?_)
@[reducible] def repA (r : RepV) : AV := .ag [Iv r.gen, Iv r.stanzas, Iv r.remarks, Iv r.blanks, Iv r.records, Iv r.live, Iv r.bytes, Iv r.base, Iv r.tail, Iv r.text]
@[reducible] def textsA (xs : List Bytes) : AV := .sl 1 (xs.map fun x => Sv x) none
theorem textsA_pure (xs:List Bytes):Pure (textsA xs):=qdd fun x hx=>by
 obtain⟨f,_,rfl⟩:=List.mem_map.1 hx
 intro y hy
 simp only [AV.cells,List.mem_cons,List.not_mem_nil,or_false] at hy
 subst hy
 exact q6 _
theorem alines_c (r:RepV) (st:List AObj) (h:RepI r):qn E 44 [repA r] st fun x st'=>x=textsA (linesR r)∧st'=st:=by
 refine vc [.a (repA r)] (textsA_pure _) Tryz.func44 rfl rfl (fun _=>rfl) rfl fun S0=>?_
 have l1:=itoaI_len h.gen;have l2:=itoaI_len h.stanzas;have l3:=itoaI_len h.remarks;have l4:=itoaI_len h.blanks;have l5:=itoaI_len h.records
 have l6:=itoaI_len h.live;have l7:=itoaI_len h.bytes;have l8:=itoaI_len h.base;have l9:=itoaI_len h.tail;have l10:=itoaI_len h.text
 have e1:Lib.join (outF [wGen,wStanzas,wRemarks,wBlanks] [r.gen,r.stanzas,r.remarks,r.blanks]) [32]=line1 r:=by simp only [outF,join4];rfl
 have e2:Lib.join (outF [wRecords,wLive] [r.records,r.live]) [32]=line2 r:=by simp only [outF,join2];rfl
 have e3:Lib.join (outF [wBytes,wBase,wTail,wText] [r.bytes,r.base,r.tail,r.text]) [32]=line3 r:=by simp only [outF,join4];rfl
 have h1:=fun st=>aline_c [103,101,110,32,115,116,97,110,122,97,115,32,114,101,109,97,114,107,115,32,98,108,97,110,107,115] [wGen,wStanzas,wRemarks,wBlanks] [r.gen,r.stanzas,r.remarks,r.blanks] st (by decide +kernel) (by simp) rfl (by simp [h.gen,h.stanzas,h.remarks,h.blanks]) (by simp) (by rw [e1];simp [line1,figF,wGen,wStanzas,wRemarks,wBlanks];omega)
 have h2:=fun st=>aline_c [114,101,99,111,114,100,115,32,108,105,118,101] [wRecords,wLive] [r.records,r.live] st (by decide +kernel) (by simp) rfl (by simp [h.records,h.live]) (by simp) (by rw [e2];simp [line2,figF,wRecords,wLive];omega)
 have h3:=fun st=>aline_c [98,121,116,101,115,32,98,97,115,101,32,116,97,105,108,32,116,101,120,116] [wBytes,wBase,wTail,wText] [r.bytes,r.base,r.tail,r.text] st (by decide +kernel) (by simp) rfl (by simp [h.bytes,h.base,h.tail,h.text]) (by simp) (by rw [e3];simp [line3,figF,wBytes,wBase,wTail,wText];omega)
 rw [e1] at h1
 rw [e2] at h2
 rw [e3] at h3
 unfold linesR
 apply qh []
 repeat' (first|apply And.intro|(intro h;try exact cDd)|exact⟨Tryz.call89⟩|refine cpe h1 ?_|exact⟨Tryz.call89⟩|refine cpe h2 ?_|exact⟨Tryz.call89⟩|refine cpe h3 ?_|exact cSd|apply qb []|refine exr ?_|refine qm ?_)
theorem fig_c (w:Bytes) (n:Int) (st:List AObj) (hw:w.length<1000) (h:i64 n):qn E 90 [Sv w,Iv n] st fun x st'=>x=Sv (figF w n)∧st'=st:=by
 refine vc [.s w,.i n] (q6 _) Tryz.func90 rfl rfl (fun _=>rfl) rfl fun S0=>?_
 have hl:=itoaI_len h
 have hf:=fun st=>refFiguresZ_c n st h.1 h.2
 unfold figF
 apply qh []
 repeat' (first|apply And.intro|(intro h;try exact cDd)|exact⟨Tryz.call157⟩|refine cpe hf ?_|exact cSd|apply qb []|refine exr ?_|refine qm ?_)
 all_goals (simp;omega)
theorem refLines27_c (r:RepV) (st:List AObj) (h:RepI r):qn E 45 [repA r] st fun x st'=>x=textsA (linesR r)∧st'=st:=by
 refine vc [.a (repA r)] (textsA_pure _) Tryz.func45 rfl rfl (fun _=>rfl) rfl fun S0=>?_
 have fl:∀ (w:Bytes) (n:Int),w.length<8→i64 n→(figF w n).length<40:=fun w n h1 h2=>by have:=itoaI_len h2;simp [figF];omega
 have l1:=fl wGen _ (by decide) h.gen;have l2:=fl wStanzas _ (by decide) h.stanzas;have l3:=fl wRemarks _ (by decide) h.remarks;have l4:=fl wBlanks _ (by decide) h.blanks;have l5:=fl wRecords _ (by decide) h.records
 have l6:=fl wLive _ (by decide) h.live;have l7:=fl wBytes _ (by decide) h.bytes;have l8:=fl wBase _ (by decide) h.base;have l9:=fl wTail _ (by decide) h.tail;have l10:=fl wText _ (by decide) h.text
 have h1:=fun st=>fig_c wGen _ st (by decide) h.gen
 have h2:=fun st=>fig_c wStanzas _ st (by decide) h.stanzas
 have h3:=fun st=>fig_c wRemarks _ st (by decide) h.remarks
 have h4:=fun st=>fig_c wBlanks _ st (by decide) h.blanks
 have h5:=fun st=>fig_c wRecords _ st (by decide) h.records
 have h6:=fun st=>fig_c wLive _ st (by decide) h.live
 have h7:=fun st=>fig_c wBytes _ st (by decide) h.bytes
 have h8:=fun st=>fig_c wBase _ st (by decide) h.base
 have h9:=fun st=>fig_c wTail _ st (by decide) h.tail
 have h10:=fun st=>fig_c wText _ st (by decide) h.text
 unfold linesR line1 line2 line3
 generalize figF wGen r.gen=f1 at *
 generalize figF wStanzas r.stanzas=f2 at *
 generalize figF wRemarks r.remarks=f3 at *
 generalize figF wBlanks r.blanks=f4 at *
 generalize figF wRecords r.records=f5 at *
 generalize figF wLive r.live=f6 at *
 generalize figF wBytes r.bytes=f7 at *
 generalize figF wBase r.base=f8 at *
 generalize figF wTail r.tail=f9 at *
 generalize figF wText r.text=f10 at *
 apply qh []
 repeat' (first|apply And.intro|(intro h;try exact cDd)|exact⟨Tryz.call90⟩|refine cpe h1 ?_|exact⟨Tryz.call90⟩|refine cpe h2 ?_|exact⟨Tryz.call90⟩|refine cpe h3 ?_|exact⟨Tryz.call90⟩|refine cpe h4 ?_|exact⟨Tryz.call90⟩|refine cpe h5 ?_|exact⟨Tryz.call90⟩|refine cpe h6 ?_|exact⟨Tryz.call90⟩|refine cpe h7 ?_|exact⟨Tryz.call90⟩|refine cpe h8 ?_|exact⟨Tryz.call90⟩|refine cpe h9 ?_|exact⟨Tryz.call90⟩|refine cpe h10 ?_|exact cSd|apply qb []|refine exr ?_|refine qm ?_)
 all_goals (simp;omega)
theorem mul_bound {p b:Int} (h0:0≤p) (h1:p≤100) (h2:0≤b) (h3:b≤2147483648):0≤p * b∧p * b≤214748364800:=by
 refine⟨Int.mul_nonneg h0 h2,?_⟩
 have:=Int.mul_le_mul h1 h3 h2 (by omega)
 omega
theorem aworth_c (r:RepV) (p:Int) (st:List AObj):qn E 46 [repA r,Iv p] st fun x st'=>x=Bv (worthF r p)∧st'=st:=by
 refine vc [.a (repA r),.i p] (q6 _) Tryz.func46 rfl rfl (fun _=>rfl) rfl fun S0=>?_
 unfold worthF
 by_cases h:0≤p∧p≤100∧0≤r.bytes∧r.bytes≤2147483648∧0≤r.text∧r.text≤2147483648
 ·obtain⟨h1,h2,h3,h4,h5,h6⟩:=h
  have hm:=mul_bound h1 h2 h3 h4
  have e:decide (0≤p∧p≤100∧0≤r.bytes∧r.bytes≤2147483648∧0≤r.text∧r.text≤2147483648∧100 * r.text<p * r.bytes)=decide (100 * r.text<p * r.bytes):=by
   simp [h1,h2,h3,h4,h5,h6]
  rw [e]
  apply qh []
  repeat' (first|apply And.intro|(intro h;try exact cDd)|exact cSd|apply qb []|refine exr ?_|refine qm ?_)
 ·have e:decide (0≤p∧p≤100∧0≤r.bytes∧r.bytes≤2147483648∧0≤r.text∧r.text≤2147483648∧100 * r.text<p * r.bytes)=false:=decide_eq_false fun g=>h ⟨g.1,g.2.1,g.2.2.1,g.2.2.2.1,g.2.2.2.2.1,g.2.2.2.2.2.1⟩
  rw [e]
  apply qh []
  repeat' (first|apply And.intro|(intro h;try exact cDd)|exact cSd|apply qb []|refine exr ?_|refine qm ?_)
  all_goals exact absurd (by omega) h
theorem refWorth_c (r:RepV) (p:Int) (st:List AObj):qn E 47 [repA r,Iv p] st fun x st'=>x=Bv (worthF r p)∧st'=st:=by
 refine vc [.a (repA r),.i p] (q6 _) Tryz.func47 rfl rfl (fun _=>rfl) rfl fun S0=>?_
 unfold worthF
 by_cases h:0≤p∧p≤100∧0≤r.bytes∧r.bytes≤2147483648∧0≤r.text∧r.text≤2147483648
 ·obtain⟨h1,h2,h3,h4,h5,h6⟩:=h
  have hm:=mul_bound h1 h2 h3 h4
  have e:decide (0≤p∧p≤100∧0≤r.bytes∧r.bytes≤2147483648∧0≤r.text∧r.text≤2147483648∧100 * r.text<p * r.bytes)=decide (100 * r.text<p * r.bytes):=by
   simp [h1,h2,h3,h4,h5,h6]
  rw [e]
  apply qh []
  repeat' (first|apply And.intro|(intro h;try exact cDd)|exact cSd|apply qb []|refine exr ?_|refine qm ?_)
 ·have e:decide (0≤p∧p≤100∧0≤r.bytes∧r.bytes≤2147483648∧0≤r.text∧r.text≤2147483648∧100 * r.text<p * r.bytes)=false:=decide_eq_false fun g=>h ⟨g.1,g.2.1,g.2.2.1,g.2.2.2.1,g.2.2.2.2.1,g.2.2.2.2.2.1⟩
  rw [e]
  apply qh []
  repeat' (first|apply And.intro|(intro h;try exact cDd)|exact cSd|apply qb []|refine exr ?_|refine qm ?_)
  all_goals exact absurd (by omega) h
theorem textsN_c (a b:List Bytes) (st:List AObj) (ha:a.length<1000000):qn E 43 [textsA a,textsA b] st fun r st'=>r=Bv (decide (a=b))∧st'=st:=by
 refine vc [.a (textsA a),.a (textsA b)] (q6 _) Tryz.func43 rfl rfl (fun _=>rfl) rfl fun S0=>?_
 have hma:(a.map fun x=>Sv x).length=a.length:=by simp
 have hmb:(b.map fun x=>Sv x).length=b.length:=by simp
 by_cases hl:a.length=b.length
 ·apply qh []
  repeat' (first|apply And.intro|(intro h;try exact cDd)|exact cSd|apply qb []|refine exr ?_|refine qm ?_)
  refine yt (X:=Nat) (fun k=>⟨[(0,.a (textsA a)),(1,.a (textsA b)),(12,.i a.length),(13,.i k)],[],0⟩) (fun k=>k≤a.length∧a.take k=b.take k) (fun k=>a.length - k) 0 ⟨by omega,by simp⟩ ?_ ?_
  ·skip
   repeat' (first|apply And.intro|(intro h;try exact cDd)|exact cSd|apply qb []|refine exr ?_|refine qm ?_)
   all_goals (simp;done)
  ·rintro k ⟨hk,ht⟩
   by_cases hc:k<a.length
   ·have hga:(a.map fun x=>Sv x)[k]? = some (Sv a[k]):=by simp [hc]
    have hgb:(b.map fun x=>Sv x)[k]? = some (Sv (b[k]'(by omega))):=by simp [show k<b.length by omega]
    have htn:=ql5 (d:=[]) hl hc ht
    simp only [List.getD,List.getElem?_eq_getElem hc,List.getElem?_eq_getElem (show k<b.length by omega),Option.getD_some] at htn
    by_cases he:a[k]=b[k]'(by omega)
    ·have htm:=htn he
     rw [he] at hga
     clear htn he
     generalize b[k]'(by omega)=x at *
     apply qh []
     repeat' (first|apply And.intro|(intro h;try exact cDd)|(refine Exists.intro (k) ⟨by omega,_,hga,?_⟩)|(refine Exists.intro (k) ⟨by omega,_,hgb,?_⟩)|exact absurd rfl (by assumption)|(refine Exists.intro (k+1) ⟨⟨by omega,htm⟩,by omega,?_⟩)|exact cSd|apply qb []|refine exr ?_|refine qm ?_)
    ·have hab:a≠b:=fun e=>he (by subst e;rfl)
     rw [decide_eq_false hab]
     generalize a[k]=x at *
     generalize b[k]'(by omega)=y at *
     apply qh []
     repeat' (first|apply And.intro|(intro h;try exact cDd)|(refine Exists.intro (k) ⟨by omega,_,hga,?_⟩)|(refine Exists.intro (k) ⟨by omega,_,hgb,?_⟩)|exact absurd he (by assumption)|exact cSd|apply qb []|refine exr ?_|refine qm ?_)
   ·have hab:a=b:=by
     rw [List.take_of_length_le (by omega),List.take_of_length_le (by omega)] at ht
     exact ht
    rw [decide_eq_true hab]
    apply qh []
    repeat' (first|apply And.intro|(intro h;try exact cDd)|exact cSd|apply qb []|refine exr ?_|refine qm ?_)
 ·have hab:a≠b:=fun e=>hl (by rw [e])
  rw [decide_eq_false hab]
  apply qh []
  repeat' (first|apply And.intro|(intro h;try exact cDd)|exact cSd|apply qb []|refine exr ?_|refine qm ?_)
theorem auditLines_c (r:RepV) (p:Int) (st:List AObj) (h:RepI r):qn E 9 [repA r,Iv p] st fun r st'=>r=Bv true∧st'=st:=by
 refine vc [.a (repA r),.i p] (q6 _) Tryz.func9 rfl rfl (fun _=>rfl) rfl fun S0=>?_
 have hal:=q2y
 have h1:=fun st=>alines_c r st h
 have h2:=fun st=>refLines27_c r st h
 have h3:=fun st=>textsN_c (linesR r) (linesR r) st (by simp [linesR])
 have h4:=fun st=>aworth_c r p st
 have h5:=fun st=>refWorth_c r p st
 rw [decide_eq_true rfl] at h3
 generalize linesR r=ls at *
 generalize worthF r p=w at *
 apply qh []
 repeat' (first|apply And.intro|(intro h;try exact cDd)|exact⟨Tryz.call40⟩|refine cpe hal ?_|exact⟨Tryz.call44⟩|refine cpe h1 ?_|exact⟨Tryz.call45⟩|refine cpe h2 ?_|exact⟨Tryz.call43⟩|refine cpe h3 ?_|exact⟨Tryz.call46⟩|refine cpe h4 ?_|exact⟨Tryz.call47⟩|refine cpe h5 ?_|exact cSd|apply qb []|refine exr ?_|refine qm ?_)
 all_goals (simp;done)
end Go.Proofs.YtmoklbacdkmkaaaGreatDoor
namespace Go.Proofs.YtmoklbacdkmkaaaGreatDoor
open Go Go.Av Go.RowKit Go.WideShapes Go.ChangeShapes Go.Deep Go.Proofs Go.Pl
theorem opn_rep:Opn Tryz.prog 83 fun a=>∃ r:RepV,a=repA r∧RepI r:=by
 intro H enc W fuel cs x h
 obtain⟨a,⟨vs,rfl,hl,hv⟩,hr⟩:=qqp (As:=[(some (.int .i64),IsI .i64),(some (.int .i64),IsI .i64),(some (.int .i64),IsI .i64),(some (.int .i64),IsI .i64),(some (.int .i64),IsI .i64),(some (.int .i64),IsI .i64),(some (.int .i64),IsI .i64),(some (.int .i64),IsI .i64),(some (.int .i64),IsI .i64),(some (.int .i64),IsI .i64)]) (by kernel_rfl) (by kernel_rfl) (by kernel_rfl) (by kernel_rfl)
  (List.forall_mem_cons.2 ⟨⟨fun _ h=>q7f h,q64 _⟩,List.forall_mem_cons.2 ⟨⟨fun _ h=>q7f h,q64 _⟩,List.forall_mem_cons.2 ⟨⟨fun _ h=>q7f h,q64 _⟩,List.forall_mem_cons.2 ⟨⟨fun _ h=>q7f h,q64 _⟩,List.forall_mem_cons.2 ⟨⟨fun _ h=>q7f h,q64 _⟩,List.forall_mem_cons.2 ⟨⟨fun _ h=>q7f h,q64 _⟩,List.forall_mem_cons.2 ⟨⟨fun _ h=>q7f h,q64 _⟩,List.forall_mem_cons.2 ⟨⟨fun _ h=>q7f h,q64 _⟩,List.forall_mem_cons.2 ⟨⟨fun _ h=>q7f h,q64 _⟩,List.forall_mem_cons.2 ⟨⟨fun _ h=>q7f h,q64 _⟩,nofun⟩⟩⟩⟩⟩⟩⟩⟩⟩⟩) H enc W fuel cs x h
 match vs,hl with
 | [v0,v1,v2,v3,v4,v5,v6,v7,v8,v9],_=>
  obtain⟨n0,rfl,w0⟩:=hv 0 _ _ rfl rfl
  obtain⟨n1,rfl,w1⟩:=hv 1 _ _ rfl rfl
  obtain⟨n2,rfl,w2⟩:=hv 2 _ _ rfl rfl
  obtain⟨n3,rfl,w3⟩:=hv 3 _ _ rfl rfl
  obtain⟨n4,rfl,w4⟩:=hv 4 _ _ rfl rfl
  obtain⟨n5,rfl,w5⟩:=hv 5 _ _ rfl rfl
  obtain⟨n6,rfl,w6⟩:=hv 6 _ _ rfl rfl
  obtain⟨n7,rfl,w7⟩:=hv 7 _ _ rfl rfl
  obtain⟨n8,rfl,w8⟩:=hv 8 _ _ rfl rfl
  obtain⟨n9,rfl,w9⟩:=hv 9 _ _ rfl rfl
  exact⟨_,⟨⟨n0,n1,n2,n3,n4,n5,n6,n7,n8,n9⟩,rfl,⟨lit_i64 w0,lit_i64 w1,lit_i64 w2,lit_i64 w3,lit_i64 w4,lit_i64 w5,lit_i64 w6,lit_i64 w7,lit_i64 w8,lit_i64 w9⟩⟩,hr⟩
theorem ag_rep:∀ a,(∃ r:RepV,a=repA r∧RepI r)→∃ us,a = .ag us:=by
 rintro _ ⟨r,rfl,_⟩
 exact⟨_,rfl⟩
theorem auditLines_a (r:RepV) (hr:RepI r) (p:Int) (hp : -9223372036854775808≤p∧p≤9223372036854775807) (st:List AObj):qn E 9 [repA r,Iv p] st fun x st'=>x=Bv true∧st'=st:=auditLines_c r p st hr
end Go.Proofs.YtmoklbacdkmkaaaGreatDoor
