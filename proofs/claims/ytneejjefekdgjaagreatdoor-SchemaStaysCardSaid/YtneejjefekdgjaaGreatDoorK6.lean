/- Contracts and plain facts that the closing text leans on (part 6). No condition of their own beyond those that each states. -/
import Derived.Test.YtneejjefekdgjaaGreatDoorK5
import Derived.Laws.StructEq
import Derived.MapKept
import Derived.LaidEql
import Derived.Stop.Asserts
import Derived.RowKitTokens
import Derived.Lib.IfaceEq
set_option maxRecDepth 100000
set_option linter.unusedVariables false
set_option linter.unusedSimpArgs false
namespace Go.Av
open Go Go.RowKit
section
variable {E : Env} {N : Nat} {ops : Array Oper} {nx : Nat} {sl : List (Nat × SV)} {H : Nat → Option SR} {k : Ef → Prop} {d : Option Tmp} {T : TypeId} {p : String} {af : Array Edge}
theorem qli {t e e':TypeId} {x y:Operand} {b sz i:Nat} {agg:Bool} {xs:List AV} {kd:IntKind} {v:SV} (hx:sval N sl x=some (.tp b)) (hH:H b=some (.own sz e xs)) (hy:sval N sl y=some v) (hv:qcn v=some (kd,(i:Int))) (he:elT (E.P.underlying t)=some e') (ht:tyOf E.P e'=some (sz,agg)) (hi:i<xs.length)
  (h:k ⟨.bx b (0+i * sz),[b],[],nx⟩):∃ e,Loc E N ops ⟨d,.indexAddr t x y,T,p,af,none⟩ nx sl H e∧k e:=by
 refine⟨_,yv (v:=.bx b (0+i * sz)) fun df rd K rest ρ t' S hs hS hk=>?_,h⟩
 rcases hS.ok b _ ((x5 b).trans hH) with⟨rfl,_⟩ | ⟨o,ver,cap,pad,e1,e2,_⟩
 ·simp at hi
 ·refine qj8 (o:=o) (ver:=ver) (off:=0) (len:=xs.length) (cp:=cap+1) ((qr hs hx).trans (by simp [SV.ev,e1,tpAt,AV.one])) ((qr hs hy).trans (qat hv ρ)) (qce he) ht rfl hi ?_
  simpa only [SV.ev,e1,bxAt] using hk
theorem qyy {sz i j sz':Nat} {agg:Bool} {xs pad:List AV} {z r:AV} (hw:∀ x∈xs,x.cells.length=sz) (hz:xs[i]? = some z) (hr:wi sz' agg j z.cells=some r) (hj:j+sz'≤sz) (h1:agg=false→0<sz'):wi sz' agg (0+i * sz+j) (flat xs++pad)=some r:=by
 have hg:=qvn (pad:=pad) hw hz
 have hzl:=hw z (List.mem_of_getElem? hz)
 have hlen:i * sz+sz≤(flat xs++pad).length:=by
  have:=congrArg List.length hg
  simp only [List.length_take,List.length_drop] at this
  have h1:i * sz≤xs.length * sz:=Nat.mul_le_mul_right _ (by have:=lt_of_getElem? hz;omega)
  have h2:(flat xs++pad).length=xs.length * sz+pad.length:=by rw [List.length_append,jk hw]
  omega
 unfold wi at hr ⊢
 rw [Nat.zero_add]
 cases agg with
 |true=>
  simp only [cond_true] at hr ⊢
  have b1:Nat.ble (i * sz+j+sz') (flat xs++pad).length=true:=Nat.ble_eq_true_of_le (by omega)
  have b2:Nat.ble (j+sz') z.cells.length=true:=Nat.ble_eq_true_of_le (by omega)
  rw [b2] at hr
  rw [b1]
  simp only [cond_true] at hr ⊢
  rw [← hr,← hg]
  congr 2
  apply List.ext_getElem?
  intro q
  simp only [List.getElem?_take,List.getElem?_drop]
  by_cases hq:q<sz'
  ·rw [if_pos hq,if_pos hq,if_pos (by omega)]
   congr 1
   omega
  ·rw [if_neg hq,if_neg hq]
 |false=>
  simp only [cond_false] at hr ⊢
  have:=h1 rfl
  rw [← hr,← hg,List.getElem?_take_of_lt (by omega),List.getElem?_drop]
theorem qsq {t e:TypeId} {x:Operand} {b off sz i j sz':Nat} {agg:Bool} {xs:List AV} {z r:AV} (hx:sval N sl x=some (.bx b off)) (hH:H b=some (.own sz e xs)) (ht:tyOf E.P t=some (sz',agg)) (ho:off=0+i * sz+j) (hz:xs[i]? = some z) (hr:wi sz' agg j z.cells=some r) (hj:(Nat.ble (j+sz') sz && (agg ||Nat.blt 0 sz'))=true)
  (h:k ⟨nf r,[b],[],nx⟩):∃ e,Loc E N ops ⟨d,.load t x,T,p,af,none⟩ nx sl H e∧k e:=by
 simp only [Bool.and_eq_true,Bool.or_eq_true] at hj
 refine⟨_,yv (v:=nf r) fun df rd K rest ρ t' S hs hS hk=>?_,h⟩
 rcases hS.ok b _ ((x5 b).trans hH) with⟨rfl,_⟩ | ⟨o,ver,cap,pad,e1,e2,e3,e4,_⟩
 ·simp at hz
 ·subst ho
  refine wy (o:=o) (ver:=ver) (off:=0+i * sz+j) ((qr hs hx).trans (by simp only [SV.ev,e1,bxAt])) e2 ht (qyy e4 hz hr (Nat.le_of_ble_eq_true hj.1) fun e=>?_) (by rw [← qhz ρ r];exact hk)
  rcases hj.2 with h|h
  ·rw [e] at h;simp at h
  ·exact wj h
theorem qno (A Z B us:List AV) (j:Nat) (h:j+us.length≤Z.length):jd (A++Z++B) (A.length+j) us=A++jd Z j us++B:=by
 unfold jd
 rw [List.append_assoc A Z B,List.take_length_add_append,List.take_append_of_le_length (by omega),Nat.add_assoc,List.drop_length_add_append,List.drop_append_of_le_length (by omega)]
 simp
theorem qwq {sz i j:Nat} {xs pad us:List AV} {z z':AV} (hw:∀ x∈xs,x.cells.length=sz) (hz:xs[i]? = some z) (hz':z'.cells=jd z.cells j us) (hj:j+us.length≤sz):jd (flat xs++pad) (0+i * sz+j) us=flat (xs.set i z')++pad∧z'.cells.length=sz:=by
 have hzl:=hw z (List.mem_of_getElem? hz)
 have hl:z'.cells.length=sz:=by rw [hz'];simp [jd];omega
 have hi:=lt_of_getElem? hz
 refine⟨?_,hl⟩
 rw [← qrp hw hl hi]
 have hg:=qvn (pad:=pad) hw hz
 have hA:((flat xs++pad).take (i * sz)).length=i * sz:=by
  have h1:i * sz≤xs.length * sz:=Nat.mul_le_mul_right _ (by omega)
  rw [List.length_take,List.length_append,jk hw]
  omega
 generalize flat xs++pad=cs at hg hA
 have hcs:cs=cs.take (i * sz)++z.cells++(cs.drop (i * sz)).drop sz:=by
  rw [← hg,List.append_assoc,List.take_append_drop,List.take_append_drop]
 have e1:=qno (cs.take (i * sz)) z.cells ((cs.drop (i * sz)).drop sz) us j (by omega)
 have e2:=qno (cs.take (i * sz)) z.cells ((cs.drop (i * sz)).drop sz) z'.cells 0 (by omega)
 rw [hA,← hcs] at e1 e2
 have e3:jd z.cells 0 z'.cells=z'.cells:=by
  unfold jd
  rw [Nat.zero_add,List.drop_eq_nil_of_le (by omega)]
  simp
 rw [Nat.add_zero,e3] at e2
 rw [Nat.zero_add,e1,e2,hz']
theorem qzv {t e:TypeId} {x y:Operand} {b off sz i j sz':Nat} {agg:Bool} {xs:List AV} {z z' u:AV} {v:SV} (hx:sval N sl x=some (.bx b off)) (hy:sval N sl y=some v) (hv:∀ ρ,v.ev ρ = u) (hH:H b=some (.own sz e xs)) (ht:tyOf E.P t=some (sz',agg)) (ho:off=0+i * sz+j) (hz:xs[i]? = some z) (hz':z'.cells=jd z.cells j u.cells)
  (hj:(u.okc && Nat.beq u.cells.length sz' && wh u.cells && Nat.ble (j+sz') sz)=true) (h:k ⟨.a (.v undef),[b],[(b,some (.own sz e (xs.set i z')))],nx⟩):∃ e,Loc E N ops ⟨d,.store t x y,T,p,af,none⟩ nx sl H e∧k e:=by
 simp only [Bool.and_eq_true] at hj
 obtain⟨⟨⟨j1,j2⟩,j3⟩,j4⟩:=hj
 have j2:=Nat.eq_of_beq_eq_true j2
 have j4:=Nat.le_of_ble_eq_true j4
 refine⟨_,fun df rd K rest ρ t' S hs hS hk=>?_,h⟩
 have hok:=hS.ok b _ ((x5 b).trans hH)
 rcases hok with⟨rfl,_⟩ | ⟨o,ver,cap,pad,e1,e2,e3,e4,e5,e6⟩
 ·simp at hz
 ·subst ho
  obtain⟨q1,q2⟩:=qwq (pad:=pad) e4 hz hz' (by omega)
  have hlt:=lt_of_getElem? hz
  refine qe1 (o:=o) (ver:=ver) (off:=0+i * sz+j) (xs:=u.cells) ((qr hs hx).trans (by simp only [SV.ev,e1,bxAt])) ((qr hs hy).trans (hv ρ)) e2 ht j1 rfl j2 (by simpa [wh] using j3) (by
   have h1:i * sz+sz≤xs.length * sz:=by rw [← Nat.succ_mul];exact Nat.mul_le_mul_right _ hlt
   rw [List.length_append,jk e4]
   omega) ?_
  rw [q1]
  have hw':∀ y∈xs.set i z',y.cells.length=sz:=fun y hy=>by
   rcases List.mem_or_eq_of_mem_set hy with h|rfl
   ·exact e4 y h
   ·exact q2
  have key:∀ k r,chF [(b,some (.own sz e (xs.set i z')))] (resF [b] H) k=some r→k=b∧r = .own sz e (xs.set i z'):=fun k r hk=>by
   simp only [chF,lkS] at hk
   by_cases e:b=k
   ·subst e
    have:Nat.beq b b=true:=by simp
    rw [this] at hk
    simp only [cond_true,Option.some.injEq] at hk
    exact⟨rfl,hk.symm⟩
   ·rw [ka e] at hk
    have:=(xe hk).1
    simp only [memN,List.any_cons,List.any_nil,Bool.or_false] at this
    exact absurd (Nat.eq_of_beq_eq_true this).symm e
  refine hk ρ _ ⟨fun _ _=>rfl,⟨fun k r hk=>?_,fun k k' r r' hne g1 g2=>?_⟩,by simp,fun j hj hne=>?_,fun k r hk o' ho'=>?_⟩
  ·obtain⟨rfl,rfl⟩:=key k r hk
   refine .inr ⟨o,ver,cap,pad,by rw [e1,List.length_set],qbb e2,?_,hw',by rw [List.length_set];exact e5,e6⟩
   rw [List.length_append,jk hw',List.length_set,← jk e4,← List.length_append]
   exact e3
  ·exact absurd ((key k r g1).1.trans (key k' r' g2).1.symm) hne
  ·have:=hne b _ ((x5 b).trans hH)
   rw [e1] at this
   exact List.getElem?_set_ne (fun e=>this (by rw [e];rfl))
  ·obtain⟨rfl,rfl⟩:=key k r hk
   exact .inr ⟨k,_,(x5 k).trans hH,ho'⟩
structure OwnR (sz:Nat) (T:TypeId) (ys:List AV) (st:List AObj) (c r:AV) (st':List AObj):Prop where
 ok:OwnS st' sz T ys r
 len:st.length≤st'.length
 same:∀ j,j<st.length→zg c≠some j→st'[j]? = st[j]?
 loc:∀ o,zg r=some o→st.length≤o∨zg c=some o
theorem qob {S:List AObj} {sz:Nat} {T:TypeId} {xs:List AV} {c:AV} (h:OwnS S sz T xs c):tpAt c=c:=qlq h
theorem qk0 {f:FuncId} {sz:Nat} {T0:TypeId} {xs ys:List AV} (args:List AV) (hc:okC ⟨jr 0 (.tp 0::args.map .a),[(0,some (.own sz T0 xs))],1⟩=true)
  (h:∀ st c,OwnS st sz T0 xs c→qn E f (c::args) st fun r st'=>OwnR sz T0 ys st c r st'):wu E f (.tp 0::args.map .a) 1 (hpF [(0,some (.own sz T0 xs))]) ⟨.tp 1,wr [(0,some (.own sz T0 xs))],[(1,some (.own sz T0 ys))]++xd [(0,some (.own sz T0 xs))],2⟩:=fun ρ S hS=>by
 simp only [ya] at hS
 have hok:OwnS S sz T0 xs (ρ 0):=hS.ok 0 _ rfl
 have e:SV.evs ρ (.tp 0::args.map .a) = ρ 0::args:=by
  simp only [SV.evs,SV.ev,qob hok,w9,List.map_map]
  congr 1
  conv=>rhs;rw [← List.map_id args]
  exact List.map_congr_left fun x _=>rfl
 rw [e]
 refine (h S (ρ 0) hok).mono fun r S' hr=>⟨upd ρ 1 r,?_,?_⟩
 ·simp only [SV.ev,vw,qob hr.ok]
 ·have key:∀ k q,hpF [(1,some (.own sz T0 ys))] k=some q→k=1∧q = .own sz T0 ys:=fun k q hk=>by
   have:=x4 hk
   simp only [lkS] at this
   cases hb:Nat.beq 1 k with
   |true=>
    rw [hb] at this
    simp only [cond_true,Option.some.injEq] at this
    exact⟨(Nat.eq_of_beq_eq_true hb).symm,this.symm⟩
   |false=>rw [hb] at this;simp at this
  refine⟨fun k hk=>y6 _ _ (by simp only at hk;omega),?_,hr.len,fun j hj hn=>?_,fun k q hk o ho=>?_⟩
  ·simp only [ya,qd3]
   refine⟨fun k q hk=>?_,fun k k' q q' hne h1 h2=>absurd ((key k q h1).1.trans (key k' q' h2).1.symm) hne⟩
   obtain⟨rfl,rfl⟩:=key k q hk
   rw [vw]
   exact hr.ok
  ·simp only [ya] at hn
   exact hr.same j hj (hn 0 _ rfl)
  ·simp only [ya,qd3] at hk ⊢
   obtain⟨rfl,rfl⟩:=key k q hk
   rw [vw] at ho
   rcases hr.loc o ho with h|h
   ·exact .inl h
   ·exact .inr ⟨0,_,rfl,h⟩
theorem qtx {f:FuncId} {sz:Nat} {T0:TypeId} {ys:List AV} {nx:Nat} {H:Nat→Option SR} (args:List AV) (vs:List SV) (hv:∀ ρ,SV.evs ρ vs=args)
  (h:∀ st,qn E f args st fun r st'=>OwnR sz T0 ys st (.v undef) r st'):wu E f vs nx H ⟨.tp nx,[],[(nx,some (.own sz T0 ys))],nx+1⟩:=fun ρ S hS=>by
 rw [hv]
 refine (h S).mono fun r S' hr=>⟨upd ρ nx r,?_,?_⟩
 ·simp only [SV.ev,vw,qob hr.ok]
 ·have key:∀ k q,chF [(nx,some (SR.own sz T0 ys))] (resF [] H) k=some q→k=nx∧q = .own sz T0 ys:=fun k q hk=>by
   simp only [chF,lkS] at hk
   cases hb:Nat.beq nx k with
   |true=>
    rw [hb] at hk
    simp only [cond_true,Option.some.injEq] at hk
    exact⟨(Nat.eq_of_beq_eq_true hb).symm,hk.symm⟩
   |false=>
    rw [hb] at hk
    simp [resF,memN] at hk
  refine⟨fun k hk=>y6 _ _ (by simp only at hk;omega),⟨fun k q hk=>?_,fun k k' q q' hne h1 h2=>absurd ((key k q h1).1.trans (key k' q' h2).1.symm) hne⟩,hr.len,fun j hj _=>hr.same j hj (by simp [zg]),fun k q hk o ho=>?_⟩
  ·obtain⟨rfl,rfl⟩:=key k q hk
   rw [vw]
   exact hr.ok
  ·obtain⟨rfl,rfl⟩:=key k q hk
   rw [vw] at ho
   rcases hr.loc o ho with h|h
   ·exact .inl h
   ·simp [zg] at h
end
end Go.Av
namespace Go.Proofs.YtneejjefekdgjaaGreatDoor
open Go Go.Av Go.RowKit Go.Proofs Go.Pl
def accK (l:qd) (r:List qd) (k:Nat):List qd:=y3 32 (y8 l)::(r.take k).map fun s=>y3 46 (s.drop 1)
theorem qxz {l:qd} {r:List qd} {k:Nat} {a:qd} (h:r[k]? = some a):(accK l r (k+1)).map (fun x=>Sv x)=(accK l r k).map (fun x=>Sv x)++[Sv (y3 46 (a.drop 1))]:=by
 obtain⟨hlt,rfl⟩:=List.getElem?_eq_some_iff.1 h
 unfold accK
 rw [← List.take_append_getElem hlt]
 simp only [List.map_append,List.map_cons,List.map_nil,List.cons_append]
set_option maxHeartbeats 4000000 in
theorem qim (ls:List qd) (st:List AObj) (hB:LsB ls):qn E 210 [Ss ls] st fun r st'=>r=qd9 ls∧st'=st:=by
 refine wt [.a (Ss ls)] (qtf _) Tryz.func210 rfl rfl (fun _=>rfl) rfl fun S0=>?_
 have hL:=hB.len
 have hml:(ls.map fun x=>Sv x).length=ls.length:=by simp
 cases ls with
 |nil=>
  apply qi [2]
  repeat' (first|apply And.intro|(intro h;try exact cDd)|exact cSd|apply qf [2]|refine exr ?_|refine qj ?_)
 |cons l r=>
  have hl:=hB.val l (by simp)
  simp only [List.length_cons] at hL hml
  have hget0:((l::r).map fun x=>Sv x)[0]? = some (Sv l):=rfl
  have hrm:(r.map fun x=>Sv x).length=r.length:=by simp
  by_cases h4:qq l=4
  ·have hkf:=qi9.1 h4
   have hcu:=fun st=>qw1 l st (by omega) h4
   have ht1:=fun st=>qvm (y8 l) 32 st
   apply qi [2,31]
   repeat' (first|apply And.intro|(intro h;try exact cDd)|(refine Exists.intro (0) ⟨by omega,_,hget0,?_⟩)|exact⟨Tryz.call272⟩|refine cpe hcu ?_|exact⟨Tryz.call74⟩|refine cpe ht1 ?_|exact cSd|apply qf [2,31]|refine exr ?_|refine qj ?_)
   refine wq (X:=Nat) (fun k=>⟨[(2,.bx 0 0),(4,.s (ke l)),(7,.tp 1),(33,.a (.sl 1 (r.map fun x=>Sv x) none)),(34,.i (r.map fun x=>Sv x).length),(35,.i k)],[(0,some (.cells 111 [.s [],.s []])),(1,some (.tip 1 9 ((accK l r k).map fun x=>Sv x)))],2⟩) (fun k=>k≤r.length∧∀ x∈r.take k,qq x=3) (fun k=>r.length - k) 0 ⟨by omega,by simp⟩ ?_ ?_
   ·skip
    repeat' (first|apply And.intro|(intro h;try exact cDd)|exact cSd|apply qf []|refine exr ?_|refine qj ?_)
   ·rintro k ⟨hk,h3⟩
    have hacl:((accK l r k).map fun x=>Sv x).length=k+1:=by unfold accK;simp;omega
    by_cases hlt:k<r.length
    ·obtain⟨a,ha⟩:∃ a,r[k]? = some a:=⟨_,List.getElem?_eq_getElem hlt⟩
     have hget:(r.map fun x=>Sv x)[k]? = some (Sv a):=by simp [ha]
     have hav:=hB.val a (by simp [List.mem_of_getElem? ha])
     have hka:=fun st=>qi8 a st (by omega)
     have ht2:=fun st=>qvm (a.drop 1) 46 st
     have hnx:=qxz (l:=l) ha
     by_cases hk3:qq a=3
     ·obtain⟨h2,_⟩:=qn7 hk3
      simp only [hk3] at hka
      have htk:r.take (k+1)=r.take k++[a]:=by
       obtain⟨_,rfl⟩:=List.getElem?_eq_some_iff.1 ha
       rw [List.take_append_getElem]
      apply qi []
      repeat' (first|apply And.intro|(intro h;try exact cDd)|(refine Exists.intro (k) ⟨by omega,_,hget,?_⟩)|exact⟨Tryz.call122⟩|refine cpe hka ?_|exact⟨Tryz.call74⟩|refine cpe ht2 ?_|(refine Exists.intro (k+1) ⟨⟨by omega,by rw [htk];exact qlf h3 hk3⟩,by omega,?_⟩)|exact cSd|apply qf []|refine exr ?_|refine qj ?_)
      all_goals first|(rw [hnx];done)|(rw [hnx];simp [SV.evs,SV.ev];done)|(simp only [List.length_cons,List.length_nil];omega)
     ·have hno:jm (l::r)=(([],[]),2):=if_neg fun h=>hk3 (h.2.2 a (List.mem_of_getElem? ha))
      unfold qd9
      rw [hno]
      apply qi []
      repeat' (first|apply And.intro|(intro h;try exact cDd)|(refine Exists.intro (k) ⟨by omega,_,hget,?_⟩)|exact⟨Tryz.call122⟩|refine cpe hka ?_|exact absurd (by assumption) hk3|exact cSd|apply qf []|refine exr ?_|refine qj ?_)
    ·rw [List.take_of_length_le (by omega)] at h3
     have hkr:k=r.length:=by omega
     subst hkr
     have hok:qls (l::r):=⟨by simp,h4,h3⟩
     have hjl:=qs8 r fun s hs=>hB.val s (by simp [hs])
     have hj:=qy7 (y3 32 (y8 l)) r
     have hjv:Lib.join (accK l r r.length) [10]=qax l r:=by unfold accK;rw [List.take_length];exact hj
     have htr:(y3 32 (y8 l)).length≤l.length:=by unfold y3 y8;split <;> simp <;> omega
     have hvl:(qax l r).length≤140737488355328:=by
      unfold qax
      rw [List.length_append]
      omega
     have hjn:=fun tip st=>q31 (accK l r r.length) tip [10] (qax l r) st hjv (by rw [← List.length_map (f:=fun x=>Sv x),hacl];omega) hvl
     have hkl:(ke l).length<4294967281:=by have:=hkf.2.2.2.1;omega
     have hun:jm (l::r)=if 1000<(qax l r).length then (([],[]),6) else ((ke l,qax l r),0):=if_pos hok
     have hjn0:=hjn none
     unfold qd9
     by_cases hv:1000<(qax l r).length
     ·have hcf:wv (ke l,qax l r)=6:=(if_neg (by simpa using hkf.2.2)).trans (if_pos hv)
      have hck:=fun st=>qfu (ke l,qax l r) st hkl (by rw [hcf];decide)
      rw [hcf] at hck
      rw [hun,if_pos hv]
      apply qi [10]
      repeat' (first|apply And.intro|(intro h;try exact cDd)|exact⟨Tryz.call127⟩|refine cpe hjn0 ?_|exact⟨Tryz.call273⟩|refine cpe hck ?_|exact cSd|apply qf [10]|refine exr ?_|refine qj ?_)
     ·have hcf:wv (ke l,qax l r)=0:=(if_neg (by simpa using hkf.2.2)).trans (if_neg hv)
      have hck:=fun st=>qft (ke l,qax l r) st hkl hcf
      rw [hun,if_neg hv]
      apply qi [10]
      repeat' (first|apply And.intro|(intro h;try exact cDd)|exact⟨Tryz.call127⟩|refine cpe hjn0 ?_|exact⟨Tryz.call273⟩|refine cpe hck ?_|exact cSd|apply qf [10]|refine exr ?_|refine qj ?_)
  ·have hno:jm (l::r)=(([],[]),2):=if_neg fun h=>h4 h.2.1
   have hcu:=fun st=>qua l st (by omega) h4
   unfold qd9
   rw [hno]
   apply qi [2]
   repeat' (first|apply And.intro|(intro h;try exact cDd)|(refine Exists.intro (0) ⟨by omega,_,hget0,?_⟩)|exact⟨Tryz.call272⟩|refine cpe hcu ?_|exact cSd|apply qf [2]|refine exr ?_|refine qj ?_)
end Go.Proofs.YtneejjefekdgjaaGreatDoor
namespace Go.Av
open Go Go.RowKit
structure DP where
 q:Prop
 h:Decidable q
def eqC1 (u:Option TypeDesc) (x y:SV):Option DP:=
 match u with
 |some (.int _)=>(match qcn x,qcn y with
  |some (k,m),some (k',n)=>bif decide (k=k') then some ⟨m=n,inferInstance⟩ else none
  | _,_=>none)
 |some .string=>(match x,y with
  | .s m,.s n=>some ⟨m=n,inferInstance⟩
  | _,_=>none)
 |some .bool=>(match qg1 x,qg1 y with
  |some a,some b=>some ⟨a=b,inferInstance⟩
  | _,_=>none)
 | _=>none
def eqCs (P:Program):Nat→List Field→List SV→List SV→Option DP
 | _,[],[],[]=>some ⟨True,inferInstance⟩
 | i, f :: r, x :: xs, y :: ys => bif f.name != "_" && Nat.beq f.offset i then (match eqC1 (P.underlying f.type) x y, eqCs P (i + 1) r xs ys with
  |some a,some b=>some ⟨a.q∧b.q,@instDecidableAnd _ _ a.h b.h⟩
  | _,_=>none) else none
 | _,_,_,_=>none
def agOf:SV→Option (List SV)
 | .ag cs=>some cs
 | .a (.ag xs)=>some (nfs xs)
 | _=>none
theorem qut {v:SV} {cs:List SV} (h:agOf v=some cs) (ρ : Nat→AV):v.ev ρ = .ag (SV.evs ρ cs):=by
 unfold agOf at h
 split at h
 ·simp only [Option.some.injEq] at h;subst h;rfl
 ·simp only [Option.some.injEq] at h;subst h;simp only [SV.ev,qer]
 ·simp at h
def qsf:TypeDesc→Bool
 | .struct _=>false
 | .array _ _=>false
 | _=>true
theorem qs1 {P:Program} {t:TypeId} {u:TypeDesc} {cs:Array Value} {off:Nat} {a:Value} (w:World) (hu:P.underlying t=some u) (hs:qsf u=true) (h:cs[off]? = some a):(part t cs off).run P w = .ok a w:=by
 unfold part isAgg
 cases u <;> simp [run_underlying hu,h,qsf] at hs ⊢
theorem q1d {P:Program} {G:Gh} {ρ : Nat→AV} {t:TypeId} {x y:SV} {a b:Value} {q:DP} {d:Nat} (w:World) (h:eqC1 (P.underlying t) x y=some q) (hx:Rel G (x.ev ρ) a) (hy:Rel G (y.ev ρ) b) :
  (Op.equalIn (d+1) t a b).run P w = .ok (@decide q.q q.h) w∧∃ u,P.underlying t=some u∧qsf u=true:=by
 unfold eqC1 at h
 split at h
 ·rename_i kd hu
  split at h
  ·rename_i k m k' n hm hn
   cases hk:decide (k=k') with
   |false=>rw [hk] at h;simp at h
   |true=>
    rw [hk] at h
    simp only [cond_true,Option.some.injEq] at h
    have hk:=of_decide_eq_true hk
    subst hk
    subst h
    rw [qat hm] at hx
    rw [qat hn] at hy
    cases hx
    cases hy
    refine⟨?_,_,hu,rfl⟩
    rw [run_equalIn_int w d t k kd m n hu]
    congr 1
  ·simp at h
 ·rename_i hu
  split at h
  ·rename_i m n
   simp only [Option.some.injEq] at h
   subst h
   cases hx
   cases hy
   refine⟨?_,_,hu,rfl⟩
   rw [run_equalIn_string w d t _ _ hu]
   simp only [ByteArray.toList_eq]
   congr 1
   by_cases he:m=n <;> simp [he]
  ·simp at h
 ·rename_i hu
  split at h
  ·rename_i m n hm hn
   simp only [Option.some.injEq] at h
   subst h
   rw [qdh hm] at hx
   rw [qdh hn] at hy
   cases hx
   cases hy
   refine⟨?_,_,hu,rfl⟩
   rw [run_equalIn_bool' w d t _ _ hu]
   congr 1
  ·simp at h
 ·simp at h
theorem qrh {P:Program} {G:Gh} {ρ : Nat→AV} {d:Nat} (w:World) (us ws:Array Value):∀ (i:Nat) (fs:List Field) (xs ys:List SV) (q:DP),eqCs P i fs xs ys=some q →
  (∀ j x,xs[j]? = some x→∃ a,us[i+j]? = some a∧Rel G (x.ev ρ) a)→(∀ j x,ys[j]? = some x→∃ a,ws[i+j]? = some a∧Rel G (x.ev ρ) a)→(Op.eqFields (d+1) us ws fs).run P w = .ok (@decide q.q q.h) w
 |i,[],[],[],q,h,_,_=>by
  simp only [eqCs,Option.some.injEq] at h
  subst h
  simp [Op.eqFields]
 |i,f::r,x::xs,y::ys,q,h,hx,hy=>by
  simp only [eqCs] at h
  cases hc : (f.name != "_" && Nat.beq f.offset i) with
  |false=>rw [hc] at h;simp at h
  |true=>
   rw [hc] at h
   simp only [Bool.and_eq_true] at hc
   obtain⟨hc1,hc2⟩:=hc
   have hc2:=Nat.eq_of_beq_eq_true hc2
   simp only [cond_true] at h
   split at h
   ·rename_i qa qb h1 h2
    simp only [Option.some.injEq] at h
    subst h
    obtain⟨a,ha,hra⟩:=hx 0 x rfl
    obtain⟨b,hb,hrb⟩:=hy 0 y rfl
    obtain⟨e1,u,hu,hsc⟩:=q1d (d:=d) w h1 hra hrb
    have ih:=qrh (d:=d) w us ws (i+1) r xs ys qb h2 (fun j z hz=>by
     obtain⟨a,h3,h4⟩:=hx (j+1) z (by simpa using hz)
     exact⟨a,by rw [← h3];congr 1;omega,h4⟩) (fun j z hz=>by
     obtain⟨a,h3,h4⟩:=hy (j+1) z (by simpa using hz)
     exact⟨a,by rw [← h3];congr 1;omega,h4⟩)
    have hn : f.name ≠ "_" := by simpa using hc1
    rw [Nat.add_zero,← hc2] at ha hb
    simp only [Op.eqFields,Sem.run_bind,Sem.run_ite,if_pos hn,qs1 w hu hsc ha,qs1 w hu hsc hb,Result.andThen_ok,e1]
    rcases (Classical.em qa.q) with hq|hq
    ·rw [@decide_eq_true _ qa.h hq]
     simp only [Bool.not_true,Bool.false_eq_true,if_false,ih]
     congr 1
     rcases (Classical.em qb.q) with hr|hr
     ·rw [@decide_eq_true _ qb.h hr];exact (@decide_eq_true _ (@instDecidableAnd _ _ qa.h qb.h) ⟨hq,hr⟩).symm
     ·rw [@decide_eq_false _ qb.h hr];exact (@decide_eq_false _ (@instDecidableAnd _ _ qa.h qb.h) fun h=>hr h.2).symm
    ·rw [@decide_eq_false _ qa.h hq]
     simp only [Bool.not_false,if_true,Sem.run_pure]
     congr 1
     exact (@decide_eq_false _ (@instDecidableAnd _ _ qa.h qb.h) fun h=>hq h.1).symm
   ·simp at h
 | _,[],[],_::_,_,h,_,_=>by simp [eqCs] at h
 | _,[],_::_,_,_,h,_,_=>by simp [eqCs] at h
 | _,_::_,[],_,_,h,_,_=>by simp [eqCs] at h
 | _,_::_,_::_,[],_,h,_,_=>by simp [eqCs] at h
section
variable {E : Env} {N : Nat} {ops : Array Oper} {nx : Nat} {sl : List (Nat × SV)} {H : Nat → Option SR} {k : Ef → Prop} {d : Option Tmp} {T : TypeId} {p : String} {af : Array Edge}
structure EqT (P:Program) (t:TypeId):Prop where
 u:P.underlying t=some (.struct (P.fieldsOf t))
 s:P.stoodInHeld t=false
 g:P.eqGuardType P.depth t=false
theorem qvg {G:Gh} {cs:List AV} {v:Value} (h:Rel G (.ag cs) v):∃ vs:Array Value,v = .agg vs∧∀ (j:Nat) x,cs[j]? = some x→∃ a,vs[j]? = some a∧Rel G x a:=by
 cases h with
 |ag _ vs hl h=>
  refine⟨vs,rfl,fun j x hx=>?_⟩
  have hj:j<vs.size:=by have:=lt_of_getElem? hx;omega
  exact⟨vs[j],by simp [hj],h j x _ hx (by simp [hj])⟩
theorem q6j {t:TypeId} {v1 v2:Value} {G:Gh} {ρ : Nat→AV} {vx vy:SV} {xs ys:List SV} {q:DP} (ht:EqT E.P t) (hx:agOf vx=some xs) (hy:agOf vy=some ys) (hq:eqCs E.P 0 (E.P.fieldsOf t).toList xs ys=some q) (h1:Rel G (vx.ev ρ) v1) (h2:Rel G (vy.ev ρ) v2) (w:World) :
  ∃ us ws,v1 = .agg us∧v2 = .agg ws∧(Op.equalIn 10000 t (.agg us) (.agg ws)).run E.P w = .ok (@decide q.q q.h) w:=by
 rw [qut hx] at h1
 rw [qut hy] at h2
 obtain⟨us,rfl,ha⟩:=qvg h1
 obtain⟨ws,rfl,hb⟩:=qvg h2
 refine⟨us,ws,rfl,rfl,?_⟩
 rw [run_equalIn_agg w 9999 t us ws ht.u ht.s]
 refine qrh (G:=G) (ρ:= ρ) w us ws 0 _ xs ys q hq (fun j x hx=>?_) (fun j x hx=>?_)
 ·rw [Nat.zero_add]
  exact ha j _ (by rw [w9,List.getElem?_map,hx];rfl)
 ·rw [Nat.zero_add]
  exact hb j _ (by rw [w9,List.getElem?_map,hx];rfl)
theorem q21 {t t':TypeId} {x y:Operand} {vx vy:SV} {xs ys:List SV} {q:DP} (ht:EqT E.P t) (hx:sval N sl x=some vx) (hy:sval N sl y=some vy) (h1:agOf vx=some xs) (h2:agOf vy=some ys) (hq:eqCs E.P 0 (E.P.fieldsOf t).toList xs ys=some q) (h:k ⟨.p q.q q.h,[],[],nx⟩) :
  ∃ e,Loc E N ops ⟨d,.binOp .eql t x y t',T,p,af,none⟩ nx sl H e∧k e:=by
 refine⟨_,jl fun df rd K rest ρ t1 S hs hk=>qt rfl (qs nofun fun B0 w0 G a w _ hI=>?_),h⟩
 have e1:=hI.eval x
 rw [qr hs hx] at e1
 have e2:=hI.eval y
 rw [qr hs hy] at e2
 obtain⟨us,ws,g1,g2,g3⟩:=q6j ht h1 h2 hq e1 e2 w
 generalize a.eval=ev at g1 g2
 have hg:(eqGuard .eql t x y (.agg us) (.agg ws)).run E.P w = .ok () w:=run_eqGuard_agg w .eql t x y us ws ht.g
 refine⟨.bool (@decide q.q q.h),w,G,Bv (@decide q.q q.h),S,?_,.refl G,hI.agree,.v _,hk⟩
 simp [execOp,g1,g2,hg,run_eql_struct,g3]
end
end Go.Av
namespace Go.Av
open Go Go.RowKit
def qcp (kind:TypeDesc) (k:Value):List (Value×Value)→Nat→Option (Option (Nat×Value))
 | [],_=>some none
 |e::es,i=>match Instr.sameNow kind k e.1 with
  |some true=>some (some (i,e.2))
  |some false=>qcp kind k es (i+1)
  |none=>none
theorem qkg (kind:TypeDesc) (k:Value):∀ (es:List MapEntry) (i:Nat),Instr.findNow kind k es i=qcp kind k (es.map fun e=>(e.key,e.val)) i
 | [],_=>rfl
 |e::es,i=>by
  rw [List.map_cons,Instr.findNow,qcp]
  cases Instr.sameNow kind k e.key with
  |none=>rfl
  |some b=>cases b with
   |true=>rfl
   |false=>exact qkg kind k es (i+1)
def mset (kvs:List (Value×Value)) (k v:Value):Option (Nat×Value)→List (Value×Value)
 |some (i,_)=>kvs.set i (k,v)
 |none=>kvs++[(k,v)]
theorem qr7 {kind:TypeDesc} {k:Value}:∀ {kvs:List (Value×Value)} {n i:Nat} {v:Value},qcp kind k kvs n=some (some (i,v))→n≤i∧∃ q,kvs[i - n]? = some (q,v)∧Instr.sameNow kind k q=some true
 | [],_,_,_,h=>by simp [qcp] at h
 |e::es,n,i,v,h=>by
  unfold qcp at h
  cases hs:Instr.sameNow kind k e.1 with
  |none=>rw [hs] at h;simp at h
  |some b=>
   rw [hs] at h
   cases b with
   |true=>
    simp only [Option.some.injEq,Prod.mk.injEq] at h
    obtain⟨rfl,rfl⟩:=h
    exact⟨Nat.le_refl _,e.1,by simp,hs⟩
   |false=>
    obtain⟨h1,q,h2,h3⟩:=qr7 h
    exact⟨by omega,q,by rw [show i - n=(i - (n+1))+1 by omega];simpa using h2,h3⟩
section
variable {E : Env} {rd : Option Nat} {N : Nat} {ops : Array Oper} {K : AS → Prop} {s : AS} {rest : List Oper} {d : Option Tmp} {T : TypeId} {p : String} {af : Array Edge}
theorem qqz {t:TypeId} (h:AOps E rd N ops rest K (AS.put ⟨s.t,s.st++[.map []],s.df⟩ d (.mp s.st.length))):AOps E rd N ops (⟨d,.makeMap t none,T,p,af,none⟩::rest) K s:=by
 refine qt rfl (qs nofun fun B0 w0 G a w _ hI=>?_)
 have hn:=hI.agree.n
 have hA:=hI.agree.newAny 0 true (.map []) (.map #[] 0) ⟨by simp [Gh.new,hn],by simp [Gh.new,hn];exact hI.agree.hB,#[],0,by
  have e:((G.new 0 w.heap.size 0 true).ob s.st.length).blk=w.heap.size:=by simp [Gh.new,hn]
  rw [e]
  exact yr w _,rfl⟩
 exact⟨.map (some w.heap.size),_,_,_,_,by simp [execOp,Instr.makeMap,newObj,Sem.run],G.le_new _ _ _ _,hA,.mp _ _ (by simp [Gh.new,hn]) (by simp [Gh.new,hn]) (by simp [Gh.new,hn]),h⟩
def mval (z:Value):Option (Nat×Value)→Value
 |some q=>q.2
 |none=>z
def mkey:TypeDesc→Value→Bool
 | .string,.string _=>true
 | .int _,.int _ _=>true
 | _,_=>false
theorem qjm {P:Program} {kt:TypeId} {kd:TypeDesc} {k:Value} (hk:P.underlying kt=some kd) (h:mkey kd k=true) (e:Bool) (n:Nat) (w:World):(Instr.checkKey e (n+1) kt k).run P w = .ok () w:=by
 unfold Instr.checkKey
 rw [Sem.run_bind,run_underlying hk]
 unfold mkey at h
 split at h
 ·rfl
 ·rfl
 ·simp at h
theorem qks {P:Program} {kt:TypeId} {kd:TypeDesc} {k:Value} {es:List MapEntry} {r:Option (Nat×Value)} (hk:P.underlying kt=some kd) (hf:qcp kd k (es.map fun e=>(e.key,e.val)) 0=some r) (w:World):(Instr.findKey kt k es).run P w = .ok r w:=by
 unfold Instr.findKey
 rw [Sem.run_bind,run_underlying hk]
 simp only [Result.andThen_ok,qkg,hf]
 rfl
theorem q2c {P:Program} {t:TypeId} {z:Value} (h:(P.info? t).bind (fun i=>i.zero)=some z) (w:World):(zeroValue t).run P w = .ok z w:=by
 cases hi:P.info? t with
 |none=>rw [hi] at h;simp at h
 |some i=>
  rw [hi] at h
  simp only [Option.bind_some] at h
  simp [zeroValue,typeInfo,hi,h]
theorem qtp {t kt vt:TypeId} {kd:TypeDesc} {x y:Operand} {o:Nat} {k z:Value} {kvs:List (Value×Value)} {r:Option (Nat×Value)} (hx:qh N s x = .mp o) (hy:qh N s y = .v k) (ho:s.st[o]? = some (.map kvs))
  (hu:E.P.underlying t=some (.map kt vt)) (hk:E.P.underlying kt=some kd) (hck:mkey kd k=true) (hf:qcp kd k kvs 0=some r) (hz:(E.P.info? vt).bind (fun i=>i.zero)=some z)
  (h:AOps E rd N ops rest K (s.put d (.v (mval z r)))):AOps E rd N ops (⟨d,.lookup t x y false,T,p,af,none⟩::rest) K s:=by
 refine qt rfl (qs nofun fun B0 w0 G a w _ hI=>?_)
 have hv:=hI.evalv hy
 have he:=hI.eval_of hx
 generalize hvx:a.eval x=v at he
 cases he with
 |mp _ b hn hr hb=>
  obtain⟨_,_,es,clock,h4,h5⟩:=hI.agree.ob o _ ho
  rw [hb] at h4
  subst h5
  refine⟨_,w,G,_,s.st,?_,.refl G,hI.agree,.v _,h⟩
  have hlk:(Instr.lookup t (.map (some b)) k false).run E.P w = .ok (mval z r) w:=by
   unfold Instr.lookup
   rw [Sem.run_bind,run_underlying hu]
   simp only [Result.andThen_ok,Sem.run_bind]
   simp only [getObj,Sem.run,h4,Result.andThen_ok,Sem.run_bind,Sem.run_pure]
   rw [show (10000:Nat)=9999+1 from rfl,qjm hk hck]
   simp only [Result.andThen_ok]
   rw [qks hk hf]
   cases r with
   |none=>simp [q2c hz,mval]
   |some q=>simp [mval]
  simp only [execOp,hvx,hv]
  rw [Sem.run_bind,hlk]
  rfl
theorem qtq {t kt vt:TypeId} {kd:TypeDesc} {x y q:Operand} {o:Nat} {k u:Value} {kvs:List (Value×Value)} {r:Option (Nat×Value)} (hx:qh N s x = .mp o) (hy:qh N s y = .v k) (hq:qh N s q = .v u) (ho:s.st[o]? = some (.map kvs))
  (hu:E.P.underlying t=some (.map kt vt)) (hk:E.P.underlying kt=some kd) (hck:mkey kd k=true) (hf:qcp kd k kvs 0=some r)
  (h:AOps E rd N ops rest K (AS.put ⟨s.t,s.st.set o (.map (mset kvs k u r)),s.df⟩ d (.v undef))):AOps E rd N ops (⟨d,.mapUpdate t x y q,T,p,af,none⟩::rest) K s:=by
 refine qt rfl (qka nofun fun B0 w0 G a w _ hI=>?_)
 have hv:=hI.evalv hy
 have hv2:=hI.evalv hq
 have he:=hI.eval_of hx
 generalize hvx:a.eval x=v at he
 cases he with
 |mp _ b hn hr hb=>
  obtain⟨hraw,hge,es,clock,h4,h5⟩:=hI.agree.ob o _ ho
  subst h5
  have key:∀ (es':Array MapEntry) (clock':Nat),es'.toList.map (fun e=>(e.key,e.val))=mset (es.toList.map fun e=>(e.key,e.val)) k u r →
    (Instr.mapUpdate t (.map (some b)) k u).run E.P w = .ok () (w.putObj b (.map es' clock'))→∃ w' G' st',(execOp a.eval ⟨d,.mapUpdate t x y q,T,p,af,none⟩).run E.P w = .ok .skip w'∧G.le G'∧q5 B0 w0 G' st' w'∧AOps E rd N ops rest K (AS.put ⟨s.t,st',s.df⟩ d (.v undef)):=fun es' clock' he hrun=>by
   refine⟨_,G,_,?_,.refl G,hI.agree.putRaw (x':=.map (mset (es.toList.map fun e=>(e.key,e.val)) k u r)) (y':=.map es' clock') ho trivial hraw h4 (by simp) ⟨hraw,hge,es',clock',?_,he⟩,h⟩
   ·simp only [execOp,hvx,hv,hv2]
    rw [Sem.run_bind,hrun,hb]
    rfl
   ·have hlt:(G.ob o).blk<w.heap.size:=(Array.getElem?_eq_some_iff.1 h4).1
    simp [World.putObj,hlt]
  rw [hb] at h4
  have hcommon:(Instr.mapUpdate t (.map (some b)) k u).run E.P w=(match r with
   |some (i,_)=>(do
     let key ← Instr.keyThatStays (((es[i]?).map (fun e:MapEntry=>e.key)).getD k) k
     setObj b (.map (es.modify i fun e:MapEntry=>{ e with key,val:=u }) clock):Sem Unit)
   |none=>(setObj b (.map (es.push { key:=k,val:=u,born:=clock }) (clock+1)):Sem Unit)).run E.P w:=by
   unfold Instr.mapUpdate
   rw [Sem.run_bind,run_underlying hu]
   simp only [Result.andThen_ok,Sem.run_bind]
   simp only [getObj,Sem.run,h4,Result.andThen_ok,Sem.run_bind]
   rw [show (10000:Nat)=9999+1 from rfl,qjm hk hck]
   simp only [Result.andThen_ok]
   rw [qks hk hf]
   simp only [Result.andThen_ok]
   cases r with
   |none=>rfl
   |some q=>rfl
  cases r with
  |none=>
   refine key (es.push { key:=k,val:=u,born:=clock }) (clock+1) (by simp [mset]) ?_
   rw [hcommon]
   simp [setObj,Sem.run,World.putObj,h4]
  |some q=>
   obtain⟨i,v0⟩:=q
   obtain⟨_,q0,hq1,hq2⟩:=qr7 hf
   rw [Nat.sub_zero,List.getElem?_map] at hq1
   obtain⟨e0,he0,he1⟩:=Option.map_eq_some_iff.1 hq1
   simp only [Prod.mk.injEq] at he1
   obtain⟨rfl,rfl⟩:=he1
   have hsb:Instr.sameBits 10000 e0.key k=true:=by
    unfold mkey at hck
    split at hck
    ·unfold Instr.sameNow at hq2
     split at hq2
     ·simp at *
     ·rename_i s1 s2 e1 e2 e3
      have hq3:s1=s2:=(Go.MapKept.bytes_beq _ _).1 (Option.some.inj hq2)
      subst hq3
      rw [e3,← e2]
      simp only [Instr.sameBits]
      exact (Go.MapKept.bytes_beq _ _).2 rfl
     ·simp at *
     ·simp at hq2
    ·unfold Instr.sameNow at hq2
     split at hq2
     ·rename_i k1 a1 k2 b1 e1 e2 e3
      split at hq2
      ·rename_i ek
       subst ek
       simp only [Option.some.injEq,beq_iff_eq] at hq2
       subst hq2
       rw [e3,← e2]
       simp [Instr.sameBits]
      ·simp at hq2
     ·simp at *
     ·simp at *
     ·simp at hq2
    ·simp at hck
   refine key (es.modify i fun e:MapEntry=>{ e with key:=k,val:=u }) clock ?_ ?_
   ·simp only [mset,Array.toList_modify]
    apply List.ext_getElem?
    intro j
    rw [List.getElem?_map,List.getElem?_modify,List.getElem?_set,List.getElem?_map]
    by_cases e:i=j
    ·subst e
     rw [he0]
     have:=(List.getElem?_eq_some_iff.1 he0).1
     simp at this ⊢
     exact this
    ·simp [e]
   ·rw [hcommon]
    have:es[i]? = some e0:=by simpa using he0
    simp [this,Instr.keyThatStays,hsb,setObj,Sem.run,World.putObj,h4]
end
end Go.Av
namespace Go.Av
open Go Go.RowKit
structure mapP (kvs:List (Value×Value)) (x:AObj) (c:AV):Prop where
 ob:x = .map kvs
 mp:∃ o,c = .mp o
section
variable {E : Env} {N : Nat} {ops : Array Oper} {nx : Nat} {sl : List (Nat × SV)} {H : Nat → Option SR} {k : Ef → Prop} {d : Option Tmp} {T : TypeId} {p : String} {af : Array Edge}
theorem q4d {t:TypeId} (h:k ⟨.tp nx,[],[(nx,some (.obj (mapP [])))],nx+1⟩):∃ e,Loc E N ops ⟨d,.makeMap t none,T,p,af,none⟩ nx sl H e∧k e:=by
 refine⟨_,qha (fun k r hk=>by rw [qf3] at hk;simp at hk) fun df rd K rest ρ t1 S ho _ hk=>qqz ?_,h⟩
 have:=hk (.mp S.length) [.map []] ⟨S.length,_,rfl,qaf,by simp,rfl,_,rfl⟩ (fun o ho=>by simp only [zg,Option.some.injEq] at ho;omega)
 simpa [SV.ev,vw,tpAt,AV.one] using this
theorem q4c {t kt vt:TypeId} {kd:TypeDesc} {x y:Operand} {b:Nat} {kvs:List (Value×Value)} {v:SV} {kv z:Value} {r:Option (Nat×Value)} {n:Int} (hx:sval N sl x=some (.tp b)) (hH:H b=some (.obj (mapP kvs))) (hy:sval N sl y=some v) (hv:∀ ρ,v.ev ρ = .v kv)
  (hu:E.P.underlying t=some (.map kt vt)) (hk:E.P.underlying kt=some kd) (hck:mkey kd kv=true) (hf:qcp kd kv kvs 0=some r) (hz:(E.P.info? vt).bind (fun i=>i.zero)=some z) (hn:mval z r = .int .i64 n)
  (h:k ⟨.i n,[b],[],nx⟩):∃ e,Loc E N ops ⟨d,.lookup t x y false,T,p,af,none⟩ nx sl H e∧k e:=by
 refine⟨_,yv (v:=.i n) fun df rd K rest ρ t' S hs hS hk2=>?_,h⟩
 obtain⟨o,x',h1,h2,_,rfl,o',e1⟩:=hS.ok b _ ((x5 b).trans hH)
 rw [e1] at h1
 simp only [zg,Option.some.injEq] at h1
 subst h1
 refine qtp (o:=o') ((qr hs hx).trans (by simp [SV.ev,e1,tpAt,AV.one])) ((qr hs hy).trans (hv ρ)) h2 hu hk hck hf hz ?_
 rw [hn]
 exact hk2
theorem q4e {t kt vt:TypeId} {kd:TypeDesc} {x y q:Operand} {b:Nat} {kvs:List (Value×Value)} {v w:SV} {kv u:Value} {r:Option (Nat×Value)} (hx:sval N sl x=some (.tp b)) (hH:H b=some (.obj (mapP kvs))) (hy:sval N sl y=some v) (hv:∀ ρ,v.ev ρ = .v kv) (hq:sval N sl q=some w) (hw:∀ ρ,w.ev ρ = .v u)
  (hu:E.P.underlying t=some (.map kt vt)) (hk:E.P.underlying kt=some kd) (hck:mkey kd kv=true) (hf:qcp kd kv kvs 0=some r)
  (h:k ⟨.a (.v undef),[b],[(b,some (.obj (mapP (mset kvs kv u r))))],nx⟩):∃ e,Loc E N ops ⟨d,.mapUpdate t x y q,T,p,af,none⟩ nx sl H e∧k e:=by
 refine⟨_,fun df rd K rest ρ t' S hs hS hk2=>?_,h⟩
 obtain⟨o,x',h1,h2,_,rfl,o',e1⟩:=hS.ok b _ ((x5 b).trans hH)
 rw [e1] at h1
 simp only [zg,Option.some.injEq] at h1
 subst h1
 refine qtq (o:=o') ((qr hs hx).trans (by simp [SV.ev,e1,tpAt,AV.one])) ((qr hs hy).trans (hv ρ)) ((qr hs hq).trans (hw ρ)) h2 hu hk hck hf ?_
 have key:∀ k r',chF [(b,some (.obj (mapP (mset kvs kv u r))))] (resF [b] H) k=some r'→k=b∧r' = .obj (mapP (mset kvs kv u r)):=fun k r' hk=>by
  simp only [chF,lkS] at hk
  by_cases e:b=k
  ·subst e
   have:Nat.beq b b=true:=by simp
   rw [this] at hk
   simp only [cond_true,Option.some.injEq] at hk
   exact⟨rfl,hk.symm⟩
  ·rw [ka e] at hk
   have:=(xe hk).1
   simp only [memN,List.any_cons,List.any_nil,Bool.or_false] at this
   exact absurd (Nat.eq_of_beq_eq_true this).symm e
 refine hk2 ρ _ ⟨fun _ _=>rfl,⟨fun k r' hk=>?_,fun k k' r1 r2 hne g1 g2=>?_⟩,by simp,fun j hj hne=>?_,fun k r' hk o' ho'=>?_⟩
 ·obtain⟨rfl,rfl⟩:=key k r' hk
  exact⟨o',_,by rw [e1];rfl,qbb h2,by simp,rfl,o',e1⟩
 ·exact absurd ((key k r1 g1).1.trans (key k' r2 g2).1.symm) hne
 ·have:=hne b _ ((x5 b).trans hH)
  rw [e1] at this
  exact List.getElem?_set_ne (fun e=>this (by rw [e];rfl))
 ·obtain⟨rfl,rfl⟩:=key k r' hk
  exact .inr ⟨k,_,(x5 k).trans hH,ho'⟩
end
end Go.Av
namespace Go.Av
open Go Go.RowKit
def getM {α : Type} [DecidableEq α] (s : α):List (α×Int)→Int
 | []=>0
 |q::r=>if q.1=s then q.2 else getM s r
def setM {α : Type} [DecidableEq α] (s : α) (n:Int):List (α×Int)→List (α×Int)
 | []=>[(s,n)]
 |q::r=>if q.1=s then (s,n)::r else q::setM s n r
theorem qrv {α : Type} [DecidableEq α] (s t : α) (n:Int):∀ (L:List (α×Int)),getM t (setM s n L)=if t=s then n else getM t L
 | []=>by
  unfold setM getM getM
  by_cases h:t=s
  ·rw [if_pos h,if_pos h.symm]
  ·rw [if_neg h,if_neg fun e=>h e.symm]
 |q::r=>by
  have ih:=qrv s t n r
  unfold setM
  by_cases hq:q.1=s
  ·rw [if_pos hq]
   unfold getM
   by_cases h:t=s
   ·rw [if_pos h,if_pos h.symm]
   ·rw [if_neg h,if_neg fun e=>h e.symm,if_neg fun e=>h (e.symm.trans hq)]
  ·rw [if_neg hq]
   unfold getM
   rw [ih]
   by_cases ht:q.1=t
   ·rw [if_pos ht,if_pos ht,if_neg fun e=>hq (ht.trans e)]
   ·rw [if_neg ht,if_neg ht]
section
variable {α : Type} [DecidableEq α] {kd : TypeDesc} {key : α → Value}
def kvM (key : α→Value) (q : α×Int):Value×Value:=(key q.1,.int .i64 q.2)
theorem qn9 (hs:∀ a b,Instr.sameNow kd (key a) (key b)=some (decide (b=a))) (s : α) (n:Int):∀ (L:List (α×Int)) (pre:List (Value×Value)),∃ r,qcp kd (key s) (L.map (kvM key)) pre.length=some r∧mval (.int .i64 0) r = .int .i64 (getM s L)∧mset (pre++L.map (kvM key)) (key s) (.int .i64 n) r=pre++(setM s n L).map (kvM key)
 | [],pre=>⟨none,rfl,rfl,by simp [mset,setM,kvM]⟩
 |q::r,pre=>by
  rw [List.map_cons,qcp]
  show ∃ r',(match Instr.sameNow kd (key s) (key q.1) with|some true=>_|some false=>_|none=>_)=some r'∧_
  rw [hs]
  unfold getM setM
  by_cases h:q.1=s
  ·rw [if_pos h,if_pos h]
   simp only [h,decide_true]
   refine⟨_,rfl,rfl,?_⟩
   simp only [mset]
   rw [List.set_append_right _ _ (Nat.le_refl _),Nat.sub_self]
   rfl
  ·rw [if_neg h,if_neg h]
   simp only [h,decide_false]
   obtain⟨r',h1,h2,h3⟩:=qn9 hs s n r (pre++[kvM key q])
   rw [List.length_append,List.length_singleton] at h1
   exact⟨r',h1,h2,by simpa using h3⟩
variable {E : Env} {N : Nat} {ops : Array Oper} {nx : Nat} {sl : List (Nat × SV)} {H : Nat → Option SR} {k : Ef → Prop} {d : Option Tmp} {T : TypeId} {p : String} {af : Array Edge}
theorem q1r {t kt vt:TypeId} {x y:Operand} {b:Nat} {L:List (α×Int)} {v:SV} {s : α} (hs:∀ a b,Instr.sameNow kd (key a) (key b)=some (decide (b=a))) (hx:sval N sl x=some (.tp b)) (hH:H b=some (.obj (mapP (L.map (kvM key))))) (hy:sval N sl y=some v) (hv:∀ ρ,v.ev ρ = .v (key s))
  (hu:E.P.underlying t=some (.map kt vt)) (hk:E.P.underlying kt=some kd) (hck:mkey kd (key s)=true) (hz:(E.P.info? vt).bind (fun i=>i.zero)=some (.int .i64 0))
  (h:k ⟨.i (getM s L),[b],[],nx⟩):∃ e,Loc E N ops ⟨d,.lookup t x y false,T,p,af,none⟩ nx sl H e∧k e:=by
 obtain⟨r,h1,h2,_⟩:=qn9 hs s 0 L []
 exact q4c hx hH hy hv hu hk hck h1 hz h2 h
theorem q1s {t kt vt:TypeId} {x y q:Operand} {b:Nat} {L:List (α×Int)} {v w:SV} {s : α} {n:Int} (hs:∀ a b,Instr.sameNow kd (key a) (key b)=some (decide (b=a))) (hx:sval N sl x=some (.tp b)) (hH:H b=some (.obj (mapP (L.map (kvM key))))) (hy:sval N sl y=some v) (hv:∀ ρ,v.ev ρ = .v (key s)) (hq:sval N sl q=some w) (hw:∀ ρ,w.ev ρ = .v (.int .i64 n))
  (hu:E.P.underlying t=some (.map kt vt)) (hk:E.P.underlying kt=some kd) (hck:mkey kd (key s)=true)
  (h:k ⟨.a (.v undef),[b],[(b,some (.obj (mapP ((setM s n L).map (kvM key)))))],nx⟩):∃ e,Loc E N ops ⟨d,.mapUpdate t x y q,T,p,af,none⟩ nx sl H e∧k e:=by
 obtain⟨r,h1,_,h3⟩:=qn9 hs s n L []
 rw [List.nil_append,List.nil_append] at h3
 rw [← h3] at h
 exact q4e hx hH hy hv hq hw hu hk hck h1 h
end
def keyS (l:List UInt8):Value:=.string ⟨l.toArray⟩
theorem qz2 (a b:List UInt8):Instr.sameNow .string (keyS a) (keyS b)=some (decide (b=a)):=by
 show some ((⟨a.toArray⟩:ByteArray) == ⟨b.toArray⟩)=_
 congr 1
 by_cases h:b=a
 ·subst h
  rw [decide_eq_true rfl]
  exact (Go.MapKept.bytes_beq _ _).2 rfl
 ·rw [decide_eq_false h]
  refine Bool.eq_false_iff.2 fun e=>h ?_
  have:=(Go.MapKept.bytes_beq _ _).1 e
  have:=congrArg (fun x:ByteArray=>x.data.toList) this
  simpa using this.symm
end Go.Av
namespace Go.Pl
open Go Go.Proofs
structure ja where
 kind:Int
 raw:qd
 fields:List Fld
structure PSt where
 lines:List qd
 frm:Int
 full:Bool
 items:List ja
 block:List qd
 fields:List Fld
 records:Int
def jy (p:PSt):Option (Int×Int)×PSt:=
 if p.lines=[] then (none,p)
 else if (jm p.lines).2≠0 then (some (p.frm,(jm p.lines).2),p)
 else if p.full=true then (some (p.frm,11),p)
 else (none,{ p with lines:=[],fields:=p.fields++[(jm p.lines).1] })
end Go.Pl
namespace Go.Proofs.YtneejjefekdgjaaGreatDoor
open Go Go.Av Go.RowKit Go.Proofs Go.Pl
@[reducible] def qei (x : ja) : AV := .ag [Iv x.kind, Sv x.raw, vq x.fields]
@[reducible] def qep (xs : List ja) : AV := .sl 3 (xs.map qei) none
@[reducible] def parC (c1 c2 c3 c4 : AV) (p : PSt) : List AV := [c1, Iv p.frm, Bv p.full, c2, c3, c4, Iv p.records]
@[reducible] def parO (c1 c2 c3 c4 : AV) (p : PSt) : AObj := .cells 0 140 (parC c1 c2 c3 c4 p)
structure ParS (b o:Nat) (p:PSt) (st:List AObj) (c1 c2 c3 c4:AV):Prop where
 lt:o<b
 le:b≤st.length
 ob:st[o]? = some (parO c1 c2 c3 c4 p)
 h1:TipC b st 1 9 (p.lines.map fun x=>Sv x) c1
 h2:TipC b st 3 52 (p.items.map qei) c2
 h3:TipC b st 1 9 (p.block.map fun x=>Sv x) c3
 h4:TipC b st 2 111 (p.fields.map fldA) c4
 ne:∀ t xs ys,c1 = .sl 1 xs (some t)→c3 = .sl 1 ys (some t)→False
structure Keep (b o:Nat) (st st':List AObj):Prop where
 len:st.length≤st'.length
 same:∀ k,k≠o→k<st.length→(k<b∨qfz st[k]?)→st'[k]? = st[k]?
theorem Keep.trans {b o:Nat} {st st' st'':List AObj} (h:Keep b o st st') (k:Keep b o st' st''):Keep b o st st'':=⟨Nat.le_trans h.len k.len,fun i hne hi hc=>by
 have e:=h.same i hne hi hc
 refine (k.same i hne (Nat.lt_of_lt_of_le hi h.len) ?_).trans e
 rw [e]
 exact hc⟩
def qen (a n:Int):AV:=.ifc 121 (.pp [Iv a,.ifc 62 (Iv n)])
def errP:Option (Int×Int)→AV
 |none=>.v .nilIface
 |some (a,n)=>qen a n
theorem qgs (a n:Int):Pure (qen a n):=qd8 (qvf fun x hx=>by
 simp only [List.mem_cons,List.not_mem_nil,or_false] at hx
 rcases hx with rfl|rfl
 ·exact zm _
 ·exact qd8 (zm _))
theorem qh5 (a n:Int) (st:List AObj):qn E 124 [Iv a,.ifc 62 (Iv n)] st fun r st'=>r=qen a n∧st'=st:=by
 refine zz (qgs a n) (qx Tryz.func124 rfl (Nat.le_of_ble_eq_true rfl) ?_)
 repeat' (first|(apply qit;(iterate 3 exact rfl))|apply qv|apply qm|apply qk|apply qp|apply qo|(apply qy;exact rfl;exact rfl)|(apply jt;(iterate 3 exact rfl))|apply zj)
 exact qu rfl (zp rfl) ⟨rfl,_,rfl⟩
theorem qxr (ls:List qd) (t:Option Nat) (st:List AObj) (hB:LsB ls) (h:(jm ls).2=0):qn E 210 [.sl 1 (ls.map fun x=>Sv x) t] st fun r st'=>r = .tu [fldA (jm ls).1,.v .nilIface]∧st'=st:=by
 have:=qim ls st hB
 unfold qd9 at this
 rw [h] at this
 exact qj9 (qii _ _ _) this
theorem qxs (ls:List qd) (t:Option Nat) (st:List AObj) (hB:LsB ls) (h:(jm ls).2≠0):qn E 210 [.sl 1 (ls.map fun x=>Sv x) t] st fun r st'=>r = .tu [fldA (jm ls).1,.ifc 62 (Iv (jm ls).2)]∧st'=st:=by
 have:=qim ls st hB
 unfold qd9 at this
 rw [qg6 h] at this
 exact qj9 (qii _ _ _) this
structure PB (n:Nat) (p:PSt):Prop where
 small:n<900000
 lines:p.lines.length≤n
 linesV:∀ s∈p.lines,s.length<1000000
 items:p.items.length≤n
 block:p.block.length≤n
 blockV:∀ s∈p.block,s.length<1000000
 fields:p.fields.length≤n
 rec0:0≤p.records
 rec1:p.records≤n
theorem PB.ls {n:Nat} {p:PSt} (h:PB n p):LsB p.lines:=⟨by have:=h.lines;have:=h.small;omega,h.linesV⟩
theorem ParS.pre {b o:Nat} {p:PSt} {st l:List AObj} {c1 c2 c3 c4:AV} (P:ParS b o p st c1 c2 c3 c4):ParS b o p (st++l) c1 c2 c3 c4:=
 ⟨P.lt,by have:=P.le;simp;omega,qdc P.ob,qf6 P.h1,qf6 P.h2,qf6 P.h3,qf6 P.h4,P.ne⟩
end Go.Proofs.YtneejjefekdgjaaGreatDoor
namespace Go.Pl
open Go Go.Proofs
def y5 (p:PSt):PSt:=
 if p.block=[] then { p with block:=[],fields:=[] }
 else { p with items:=p.items++[⟨if p.fields=[] then 2 else 3,z6 p.block,p.fields⟩],records:=if p.fields=[] then p.records else p.records+1,block:=[],fields:=[] }
def endP (p:PSt):Option (Int×Int)×PSt:=match (jy p).1 with
 |some e=>(some e,p)
 |none=>(none,y5 (jy p).2)
theorem qi7:∀ (x:qd) (r:List qd),Lib.join (x::r) [10]++[10]=z6 (x::r)
 |x,[]=>by rw [Lib.join_one];simp [z6]
 |x,y::r=>by
  have ih:=qi7 y r
  rw [Lib.join_cons] at ih ⊢
  unfold Lib.joinTail at ih ⊢
  simp only [List.map_cons,List.flatten_cons,z6,List.flatMap_cons] at ih ⊢
  rw [← ih]
  simp
theorem qif:∀ (r:List qd),(∀ s∈r,s.length<1000000)→(z6 r).length≤1000001 * r.length
 | [],_=>by simp [z6]
 |a::r,h=>by
  have ih:=qif r fun s hs=>h s (by simp [hs])
  have ha:=h a (by simp)
  simp only [z6,List.flatMap_cons,List.length_append,List.length_cons,List.length_nil] at ih ⊢
  omega
end Go.Pl
namespace Go.Proofs.YtneejjefekdgjaaGreatDoor
open Go Go.Av Go.RowKit Go.Proofs Go.Pl
theorem qgh {n:Nat} {p:PSt} (h:PB n p) (hs:n+1<900000):PB (n+1) (jy p).2:=by
 have h1:=h.lines;have h2:=h.items;have h3:=h.block;have h4:=h.fields;have h5:=h.rec0;have h6:=h.rec1
 unfold jy
 split
 ·exact⟨hs,by simp only;omega,h.linesV,by simp only;omega,by simp only;omega,h.blockV,by simp only;omega,h5,by simp only;omega⟩
 ·split
  ·exact⟨hs,by simp only;omega,h.linesV,by simp only;omega,by simp only;omega,h.blockV,by simp only;omega,h5,by simp only;omega⟩
  ·split
   ·exact⟨hs,by simp only;omega,h.linesV,by simp only;omega,by simp only;omega,h.blockV,by simp only;omega,h5,by simp only;omega⟩
   ·exact⟨hs,by simp,by simp,by simp only;omega,by simp only;omega,h.blockV,by simp;omega,h5,by simp only;omega⟩
theorem q30 (xs:List qd) (tip:Option Nat) (st:List AObj) (hne:xs≠[]) (hN:xs.length≤900000) (hv:∀ s∈xs,s.length<1000000):qn E 127 [.sl 1 (xs.map fun x=>Sv x) tip,Sv [10]] st fun r st'=>r=Sv (Lib.join xs [10])∧st'=st:=by
 refine qy6 xs tip [10] st (by omega) ?_
 have h1:=qif xs hv
 cases xs with
 |nil=>exact absurd rfl hne
 |cons x r=>
  have h2:=congrArg List.length (qi7 x r)
  rw [List.length_append] at h2
  simp only [List.length_cons,List.length_nil] at h2 h1 hN
  omega
def parH (a:Nat) (p:PSt):List (Nat×Option SR):=[(0,some (.cells 140 [.tp a,.i p.frm,.b p.full,.tp (a+1),.tp (a+2),.tp (a+3),.i p.records])),(a,some (.tip 1 9 (p.lines.map fun x=>Sv x))),(a+1,some (.tip 3 52 (p.items.map qei))),(a+2,some (.tip 1 9 (p.block.map fun x=>Sv x))),(a+3,some (.tip 2 111 (p.fields.map fldA)))]
theorem qk8 (n:Nat) (p:PSt) (hB:PB n p):wu E 126 [.bx 0 0] 5 (hpF (parH 1 p)) ⟨.a (errP (jy p).1),wr (parH 1 p),parH 5 (jy p).2++xd (parH 1 p),9⟩:=by
 refine yp [.bx 0 0] (parH 1 p) 5 (.a (errP (jy p).1)) (parH 5 (jy p).2) 9 Tryz.func126 rfl rfl rfl rfl fun S F ρ=>?_
 have hls:=hB.ls
 have hsm:=hB.small
 have hfl:=hB.fields
 by_cases h0:p.lines=[]
 ·have e:jy p=(none,p):=by unfold jy;rw [if_pos h0]
  rw [e]
  have hl0:(p.lines.map fun x=>Sv x).length=0:=by simp [h0]
  apply qi []
  repeat' (first|apply And.intro|(intro h;try exact cDd)|exact cSd|apply qf []|refine exr ?_|refine qj ?_)
 ·have hl0:(p.lines.map fun x=>Sv x).length≠0:=by simp [h0]
  by_cases hu:(jm p.lines).2=0
  ·have hun:=fun st=>qxr p.lines none st hls hu
   cases hf:p.full with
   |true=>
    have e:jy p=(some (p.frm,11),p):=by unfold jy;rw [if_neg h0,if_neg (by simp [hu]),if_pos hf]
    rw [e]
    have hft:=fun st=>qh5 p.frm 11 st
    apply qi []
    repeat' (first|apply And.intro|(intro h;try exact cDd)|exact⟨Tryz.call210⟩|refine cpe hun ?_|exact⟨Tryz.call124⟩|refine cpe hft ?_|(exact absurd (by assumption:p.full=false) (by rw [hf];decide))|exact cSd|apply qf []|refine exr ?_|refine qj ?_)
   |false=>
    have e:jy p=(none,{ p with lines:=[],fields:=p.fields++[(jm p.lines).1] }):=by unfold jy;rw [if_neg h0,if_neg (by simp [hu]),if_neg (by simp [hf])]
    rw [e]
    apply qi [51]
    repeat' (first|apply And.intro|(intro h;try exact cDd)|exact⟨Tryz.call210⟩|refine cpe hun ?_|(exact absurd (by assumption:p.full=true) (by rw [hf];decide))|exact cSd|apply qf [51]|refine exr ?_|refine qj ?_)
    all_goals first|(simp [SV.evs,SV.ev];done)|(simp [SV.evs];omega)
  ·have hun:=fun st=>qxs p.lines none st hls hu
   have e:jy p=(some (p.frm,(jm p.lines).2),p):=by unfold jy;rw [if_neg h0,if_pos hu]
   rw [e]
   have hft:=fun st=>qh5 p.frm (jm p.lines).2 st
   apply qi []
   repeat' (first|apply And.intro|(intro h;try exact cDd)|exact⟨Tryz.call210⟩|refine cpe hun ?_|exact⟨Tryz.call124⟩|refine cpe hft ?_|exact cSd|apply qf []|refine exr ?_|refine qj ?_)
theorem qvc (n:Nat) (p:PSt) (hB:PB n p) (hs:n+1<900000):wu E 69 [.bx 0 0] 5 (hpF (parH 1 p)) ⟨.a (errP (endP p).1),wr (parH 1 p),parH 5 (endP p).2++xd (parH 1 p),9⟩:=by
 refine yp [.bx 0 0] (parH 1 p) 5 (.a (errP (endP p).1)) (parH 5 (endP p).2) 9 Tryz.func69 rfl rfl rfl rfl fun S F ρ=>?_
 have hfc:=qk8 n p hB
 have hB2:=qgh hB hs
 have hsame:∀ e,(jy p).1=some e→(jy p).2=p:=fun e=>by
  unfold jy
  split
  ·simp
  ·split
   ·simp
   ·split
    ·simp
    ·simp
 unfold endP
 generalize jy p=fq at hfc hB2 hsame
 obtain⟨fe,q⟩:=fq
 cases fe with
 |some e=>
  obtain rfl:=hsame e rfl
  obtain⟨a,k⟩:=e
  apply qi []
  repeat' (first|apply And.intro|(intro h;try exact cDd)|exact⟨Tryz.call126⟩|(refine js hfc ?_)|exact cSd|apply qf []|refine exr ?_|refine qj ?_)
 |none=>
  dsimp only at hB2 hfc
  have h3:=hB2.fields
  have h4:=hB2.rec0
  have h5:=hB2.rec1
  have h1:=hB2.block
  have h2:=hB2.items
  by_cases hb:q.block=[]
  ·have e:y5 q={ q with block:=[],fields:=[] }:=by unfold y5;rw [if_pos hb]
   simp only [e]
   have hl0:(q.block.map fun x=>Sv x).length=0:=by simp [hb]
   apply qi []
   repeat' (first|apply And.intro|(intro h;try exact cDd)|exact⟨Tryz.call126⟩|(refine js hfc ?_)|exact cSd|apply qf []|refine exr ?_|refine qj ?_)
  ·have hl0:(q.block.map fun x=>Sv x).length≠0:=by simp [hb]
   have hbl:=qif q.block hB2.blockV
   obtain⟨b,r,hbr⟩:∃ b r,q.block=b::r:=by
    cases hq:q.block with
    |nil=>exact absurd hq hb
    |cons b r=>exact⟨b,r,rfl⟩
   have hjt:=qi7 b r
   rw [← hbr] at hjt
   have hjl:=congrArg List.length hjt
   simp only [List.length_append,List.length_cons,List.length_nil] at hjl
   have hjo:=fun st=>q30 q.block none st hb (by omega) hB2.blockV
   by_cases hf:q.fields=[]
   ·have e:y5 q={ q with items:=q.items++[⟨2,z6 q.block,q.fields⟩],records:=q.records,block:=[],fields:=[] }:=by unfold y5;rw [if_neg hb,if_pos hf,if_pos hf]
    simp only [e]
    have hl1:(q.fields.map fldA).length=0:=by simp [hf]
    apply qi []
    repeat' (first|apply And.intro|(intro h;try exact cDd)|exact⟨Tryz.call126⟩|(refine js hfc ?_)|exact⟨Tryz.call127⟩|refine cpe hjo ?_|exact cSd|apply qf []|refine exr ?_|refine qj ?_)
    all_goals first|(simp [SV.evs,SV.ev,hjt];done)|(simp [SV.evs];omega)
   ·have e:y5 q={ q with items:=q.items++[⟨3,z6 q.block,q.fields⟩],records:=q.records+1,block:=[],fields:=[] }:=by unfold y5;rw [if_neg hb,if_neg hf,if_neg hf]
    simp only [e]
    have hl1:(q.fields.map fldA).length≠0:=by simp [hf]
    apply qi []
    repeat' (first|apply And.intro|(intro h;try exact cDd)|exact⟨Tryz.call126⟩|(refine js hfc ?_)|exact⟨Tryz.call127⟩|refine cpe hjo ?_|exact cSd|apply qf []|refine exr ?_|refine qj ?_)
    all_goals first|(simp [SV.evs,SV.ev,hjt];done)|(simp [SV.evs];omega)
end Go.Proofs.YtneejjefekdgjaaGreatDoor
namespace Go.Pl
open Go Go.Proofs
def vf (p:PSt) (no:Int) (text:qd):PSt:={ p with lines:=[text],frm:=no,full:=decide (p.fields.length=40∨(p.fields.length=0∧p.records=400)) }
def jv (p:PSt) (no:Int) (text:qd) (ended:Bool) (kind:Int):Option (Int×Int)×PSt:=
 if kind=3 then
  if p.lines=[] then (some (no,2),p)
  else if ended=true then (none,{ p with lines:=p.lines++[text] })
  else jy { p with lines:=p.lines++[text] }
 else if kind=1 then endP p
 else jy p
def xo (p:PSt) (no:Int) (text:qd) (ended:Bool):Option (Int×Int)×PSt:=
 match (jv p no text ended (qq text)).1 with
 |some e=>(some e,p)
 |none=>
  if qq text=5∨ended=false then (some (no,2),p)
  else if qq text=1 then (none,{ (jv p no text ended (qq text)).2 with items:=(jv p no text ended (qq text)).2.items++[⟨1,text++[10],[]⟩] })
  else if qq text=4 then (none,{ vf (jv p no text ended (qq text)).2 no text with block:=(jv p no text ended (qq text)).2.block++[text] })
  else (none,{ (jv p no text ended (qq text)).2 with block:=(jv p no text ended (qq text)).2.block++[text] })
end Go.Pl
namespace Go.Proofs.YtneejjefekdgjaaGreatDoor
open Go Go.Av Go.RowKit Go.Proofs Go.Pl
theorem PB.more {n m:Nat} {p:PSt} (h:PB n p) (hm:n≤m) (hs:m<900000):PB m p:=by
 have h1:=h.lines;have h2:=h.items;have h3:=h.block;have h4:=h.fields;have h5:=h.rec0;have h6:=h.rec1
 exact⟨hs,by omega,h.linesV,by omega,by omega,h.blockV,by omega,h5,by omega⟩
theorem qym {n:Nat} {p:PSt} (h:PB n p) (hs:n+1<900000):PB (n+1) (y5 p):=by
 have h1:=h.lines;have h2:=h.items;have h3:=h.block;have h4:=h.fields;have h5:=h.rec0;have h6:=h.rec1
 unfold y5
 split
 ·exact⟨hs,by simp only;omega,h.linesV,by simp only;omega,by simp,by simp,by simp,h5,by simp only;omega⟩
 ·refine⟨hs,by simp only;omega,h.linesV,by simp;omega,by simp,by simp,by simp,?_,?_⟩
  ·simp only;split <;> omega
  ·simp only;split <;> omega
theorem qlj {n:Nat} {p:PSt} {text:qd} (h:PB n p) (hs:n+1<900000) (ht:text.length<1000000):PB (n+1) { p with lines:=p.lines++[text] }:=by
 have h1:=h.lines;have h2:=h.items;have h3:=h.block;have h4:=h.fields;have h5:=h.rec0;have h6:=h.rec1
 exact⟨hs,by simp;omega,qlf h.linesV ht,by simp only;omega,by simp only;omega,h.blockV,by simp only;omega,h5,by simp only;omega⟩
theorem qss {n:Nat} {p:PSt} {text:qd} (h:PB n p) (hs:n+1<900000) (ht:text.length<1000000):PB (n+1) { p with block:=p.block++[text] }:=by
 have h1:=h.lines;have h2:=h.items;have h3:=h.block;have h4:=h.fields;have h5:=h.rec0;have h6:=h.rec1
 exact⟨hs,by simp only;omega,h.linesV,by simp only;omega,by simp;omega,qlf h.blockV ht,by simp only;omega,h5,by simp only;omega⟩
theorem q13 {n:Nat} {p:PSt} {x:ja} (h:PB n p) (hs:n+1<900000):PB (n+1) { p with items:=p.items++[x] }:=by
 have h1:=h.lines;have h2:=h.items;have h3:=h.block;have h4:=h.fields;have h5:=h.rec0;have h6:=h.rec1
 exact⟨hs,by simp only;omega,h.linesV,by simp;omega,by simp only;omega,h.blockV,by simp only;omega,h5,by simp only;omega⟩
theorem q12 {n:Nat} {p:PSt} {no:Int} {text:qd} (h:PB n p) (hs:n+1<900000) (ht:text.length<1000000):PB (n+1) (vf p no text):=by
 have h1:=h.lines;have h2:=h.items;have h3:=h.block;have h4:=h.fields;have h5:=h.rec0;have h6:=h.rec1
 exact⟨hs,by simp [vf],by simp [vf,ht],by simp only [vf];omega,by simp only [vf];omega,h.blockV,by simp only [vf];omega,h5,by simp only [vf];omega⟩
theorem qf9 {n:Nat} {p:PSt} {no:Int} {text:qd} {ended:Bool} {kind:Int} (h:PB n p) (hs:n+2<900000) (ht:text.length<1000000):PB (n+2) (jv p no text ended kind).2:=by
 unfold jv
 split
 ·split
  ·exact h.more (by omega) hs
  ·split
   ·exact (qlj h (by omega) ht).more (by omega) hs
   ·exact qgh (qlj h (by omega) ht) hs
 ·split
  ·unfold endP
   split
   ·exact h.more (by omega) hs
   ·exact qym (qgh h (by omega)) hs
  ·exact (qgh h (by omega)).more (by omega) hs
theorem qmy (l:qd):1≤qq l∧qq l≤5:=by
 unfold qq
 repeat' split
 all_goals decide
theorem qtc {n:Nat} {p:PSt} {no:Int} {text:qd} {ended:Bool} (h:PB n p) (hs:n+4<900000) (ht:text.length<1000000):PB (n+4) (xo p no text ended).2:=by
 have h2:PB (n+2) (jv p no text ended (qq text)).2:=qf9 h (by omega) ht
 unfold xo
 split
 ·exact h.more (by omega) hs
 ·split
  ·exact h.more (by omega) hs
  ·split
   ·exact (q13 h2 (by omega)).more (by omega) hs
   ·split
    ·exact qss (q12 h2 (by omega) ht) hs ht
    ·exact (qss h2 (by omega) ht).more (by omega) hs
theorem qzx (n:Nat) (p:PSt) (no at':Int) (text:qd) (ended:Bool) (hB:PB n p):wu E 125 [.bx 0 0,.ag [.i no,.i at',.s text,.b ended]] 5 (hpF (parH 1 p)) ⟨.tu [],wr (parH 1 p),parH 5 (vf p no text)++xd (parH 1 p),9⟩:=by
 refine yp [.bx 0 0,.ag [.i no,.i at',.s text,.b ended]] (parH 1 p) 5 (.tu []) (parH 5 (vf p no text)) 9 Tryz.func125 rfl rfl rfl rfl fun S F ρ=>?_
 obtain⟨ls,fr,fu,its,bk,fs,rc⟩:=p
 have hml:(fs.map fldA).length=fs.length:=by simp
 by_cases ha:fs.length=40∨(fs.length=0∧rc=400)
 ·have e:vf ⟨ls,fr,fu,its,bk,fs,rc⟩ no text=⟨[text],no,true,its,bk,fs,rc⟩:=by
   unfold vf
   simp only [decide_eq_true ha]
  rw [e]
  apply qi [29]
  repeat' (first|apply And.intro|(intro h;try exact cDd)|exact cSd|apply qf [29]|refine exr ?_|refine qj ?_)
  all_goals (intros;simp only [hml] at *;first|(exfalso;omega)|(have hrc:rc=400:=(by omega);subst hrc;rfl))
 ·have e:vf ⟨ls,fr,fu,its,bk,fs,rc⟩ no text=⟨[text],no,false,its,bk,fs,rc⟩:=by
   unfold vf
   simp only [decide_eq_false ha]
  rw [e]
  apply qi [29]
  repeat' (first|apply And.intro|(intro h;try exact cDd)|exact cSd|apply qf [29]|refine exr ?_|refine qj ?_)
  all_goals (intros;simp only [hml] at *;first|(exfalso;omega)|(have hrc:¬ rc=400:=(by omega);simp [SV.evs,SV.ev,SV.rens,SV.ren,lkS,xc,hrc];exact⟨rfl,rfl,rfl⟩))
theorem qpd (n:Nat) (p:PSt) (no at':Int) (text:qd) (ended:Bool) (kind:Int) (hB:PB n p) (hs:n+2<900000) (ht:text.length<1000000):wu E 123 [.bx 0 0,.ag [.i no,.i at',.s text,.b ended],.i kind] 5 (hpF (parH 1 p)) ⟨.a (errP (jv p no text ended kind).1),wr (parH 1 p),parH 5 (jv p no text ended kind).2++xd (parH 1 p),9⟩:=by
 refine yp [.bx 0 0,.ag [.i no,.i at',.s text,.b ended],.i kind] (parH 1 p) 5 (.a (errP (jv p no text ended kind).1)) (parH 5 (jv p no text ended kind).2) 9 Tryz.func123 rfl rfl rfl rfl fun S F ρ=>?_
 unfold jv
 by_cases hk3:kind=3
 ·rw [if_pos hk3]
  by_cases h0:p.lines=[]
  ·rw [if_pos h0]
   have hl0:(p.lines.map fun x=>Sv x).length=0:=by simp [h0]
   have hft:=fun st=>qh5 no 2 st
   apply qi []
   repeat' (first|apply And.intro|(intro h;try exact cDd)|exact⟨Tryz.call124⟩|refine cpe hft ?_|exact cSd|apply qf []|refine exr ?_|refine qj ?_)
  ·rw [if_neg h0]
   have hl0:(p.lines.map fun x=>Sv x).length≠0:=by simp [h0]
   have hll:=hB.lines
   have hsm:=hB.small
   have hml:(p.lines.map fun x=>Sv x).length=p.lines.length:=by simp
   have hfc:=qk8 (n+1) { p with lines:=p.lines++[text] } (qlj hB (by omega) ht)
   cases ended with
   |true=>
    rw [if_pos rfl]
    apply qi []
    repeat' (first|apply And.intro|(intro h;try exact cDd)|(exact absurd (by assumption:true=false) (by decide))|exact cSd|apply qf []|refine exr ?_|refine qj ?_)
    all_goals first|(simp [SV.evs,SV.ev];done)|(simp [SV.evs];omega)
   |false=>
    rw [if_neg (by decide)]
    apply qi []
    repeat' (first|apply And.intro|(intro h;try exact cDd)|(exact absurd (by assumption:false=true) (by decide))|exact⟨Tryz.call126⟩|(refine js hfc ?_)|exact cSd|apply qf []|refine exr ?_|refine qj ?_)
    all_goals first|(simp [SV.evs,SV.ev];done)|(simp [SV.evs];omega)
 ·rw [if_neg hk3]
  by_cases hk1:kind=1
  ·rw [if_pos hk1]
   have hfc:=qvc n p hB (by omega)
   apply qi []
   repeat' (first|apply And.intro|(intro h;try exact cDd)|exact⟨Tryz.call69⟩|(refine js hfc ?_)|exact cSd|apply qf []|refine exr ?_|refine qj ?_)
  ·rw [if_neg hk1]
   have hfc:=qk8 n p hB
   apply qi []
   repeat' (first|apply And.intro|(intro h;try exact cDd)|exact⟨Tryz.call126⟩|(refine js hfc ?_)|exact cSd|apply qf []|refine exr ?_|refine qj ?_)
theorem q14 (n:Nat) (p:PSt) (no at':Int) (text:qd) (ended:Bool) (hB:PB n p) (hs:n+4<900000) (ht:text.length<1000000) (hok:(xo p no text ended).1=none):wu E 68 [.bx 0 0,.ag [.i no,.i at',.s text,.b ended]] 5 (hpF (parH 1 p)) ⟨.a (.v .nilIface),wr (parH 1 p),parH 5 (xo p no text ended).2++xd (parH 1 p),9⟩:=by
 refine yp [.bx 0 0,.ag [.i no,.i at',.s text,.b ended]] (parH 1 p) 5 (.a (.v .nilIface)) (parH 5 (xo p no text ended).2) 9 Tryz.func68 rfl rfl rfl rfl fun S F ρ=>?_
 have hfc:=qpd n p no at' text ended (qq text) hB (by omega) ht
 have hB1:=qf9 (no:=no) (text:=text) (ended:=ended) (kind:=qq text) hB (by omega) ht
 have hkr:=qmy text
 have hkd:=fun st=>qi8 text st (by omega)
 unfold xo at hok ⊢
 generalize jv p no text ended (qq text)=fq at hfc hB1 hok ⊢
 obtain⟨fe,q⟩:=fq
 cases fe with
 |some e=>exact absurd hok (by simp)
 |none=>
  dsimp only at hB1 hfc hok ⊢
  have h1:=hB1.block
  have h2:=hB1.items
  have hmb:(q.block.map fun x=>Sv x).length=q.block.length:=by simp
  have hmi:(q.items.map qei).length=q.items.length:=by simp
  by_cases hk:qq text=5∨ended=false
  ·rw [if_pos hk] at hok
   exact absurd hok (by simp)
  ·rw [if_neg hk] at hok ⊢
   have hk5:qq text≠5:=fun h=>hk (.inl h)
   obtain rfl:ended=true:=by cases ended <;> simp_all
   by_cases hk1:qq text=1
   ·rw [if_pos hk1]
    apply qi []
    repeat' (first|apply And.intro|(intro h;try exact cDd)|exact⟨Tryz.call122⟩|refine cpe hkd ?_|exact⟨Tryz.call123⟩|(refine js hfc ?_)|(exact absurd (by assumption:true=false) (by decide))|exact cSd|apply qf []|refine exr ?_|refine qj ?_)
    all_goals first|(simp [SV.evs,SV.ev];done)|(simp [SV.evs];omega)
   ·rw [if_neg hk1]
    by_cases hk4:qq text=4
    ·rw [if_pos hk4]
     have hbc:=qzx (n+2) q no at' text true hB1
     apply qi []
     repeat' (first|apply And.intro|(intro h;try exact cDd)|exact⟨Tryz.call122⟩|refine cpe hkd ?_|exact⟨Tryz.call123⟩|(refine js hfc ?_)|exact⟨Tryz.call125⟩|(refine js hbc ?_)|(exact absurd (by assumption:true=false) (by decide))|exact cSd|apply qf []|refine exr ?_|refine qj ?_)
     all_goals first|(simp [SV.evs,SV.ev,vf];done)|(simp [SV.evs,vf];omega)
    ·rw [if_neg hk4]
     apply qi []
     repeat' (first|apply And.intro|(intro h;try exact cDd)|exact⟨Tryz.call122⟩|refine cpe hkd ?_|exact⟨Tryz.call123⟩|(refine js hfc ?_)|(exact absurd (by assumption:true=false) (by decide))|exact cSd|apply qf []|refine exr ?_|refine qj ?_)
     all_goals first|(simp [SV.evs,SV.ev];done)|(simp [SV.evs];omega)
theorem q15 (n:Nat) (p:PSt) (no at':Int) (text:qd) (ended:Bool) (hB:PB n p) (hs:n+4<900000) (ht:text.length<1000000) (a m:Int) (hok:(xo p no text ended).1=some (a,m)):wu E 68 [.bx 0 0,.ag [.i no,.i at',.s text,.b ended]] 5 (hpF (parH 1 p)) ⟨.a (qen a m),wr (parH 1 p),parH 5 (jv p no text ended (qq text)).2++xd (parH 1 p),9⟩:=by
 refine yp [.bx 0 0,.ag [.i no,.i at',.s text,.b ended]] (parH 1 p) 5 (.a (qen a m)) (parH 5 (jv p no text ended (qq text)).2) 9 Tryz.func68 rfl rfl rfl rfl fun S F ρ=>?_
 have hfc:=qpd n p no at' text ended (qq text) hB (by omega) ht
 have hB1:=qf9 (no:=no) (text:=text) (ended:=ended) (kind:=qq text) hB (by omega) ht
 have hkr:=qmy text
 have hkd:=fun st=>qi8 text st (by omega)
 unfold xo at hok
 generalize jv p no text ended (qq text)=fq at hfc hB1 hok ⊢
 obtain⟨fe,q⟩:=fq
 cases fe with
 |some e=>
  dsimp only at hB1 hfc hok ⊢
  obtain rfl:e=(a,m):=by simpa using hok
  apply qi []
  repeat' (first|apply And.intro|(intro h;try exact cDd)|exact⟨Tryz.call122⟩|refine cpe hkd ?_|exact⟨Tryz.call123⟩|(refine js hfc ?_)|exact cSd|apply qf []|refine exr ?_|refine qj ?_)
 |none=>
  dsimp only at hB1 hfc hok ⊢
  by_cases hk:qq text=5∨ended=false
  ·rw [if_pos hk] at hok
   obtain⟨rfl,rfl⟩:no=a∧2=m:=by simpa using hok
   have hft:=fun st=>qh5 no 2 st
   cases ended with
   |true=>
    have hk5:qq text=5:=by simpa using hk
    apply qi []
    repeat' (first|apply And.intro|(intro h;try exact cDd)|exact⟨Tryz.call122⟩|refine cpe hkd ?_|exact⟨Tryz.call124⟩|refine cpe hft ?_|exact⟨Tryz.call123⟩|(refine js hfc ?_)|(exact absurd (by assumption:true=false) (by decide))|exact cSd|apply qf []|refine exr ?_|refine qj ?_)
   |false=>
    apply qi []
    repeat' (first|apply And.intro|(intro h;try exact cDd)|exact⟨Tryz.call122⟩|refine cpe hkd ?_|exact⟨Tryz.call124⟩|refine cpe hft ?_|exact⟨Tryz.call123⟩|(refine js hfc ?_)|(exact absurd (by assumption:false=true) (by decide))|exact cSd|apply qf []|refine exr ?_|refine qj ?_)
  ·rw [if_neg hk] at hok
   split at hok
   ·simp at hok
   ·split at hok
    ·simp at hok
    ·simp at hok
end Go.Proofs.YtneejjefekdgjaaGreatDoor
namespace Go.Pl
open Go Go.Proofs
def p0:PSt:=⟨[],0,false,[],[],[],0⟩
def runL:Nat→List (qd×Bool)→PSt→Option (Int×Int)×PSt
 | _,[],p=>endP p
 |k,(t,e)::r,p=>match (xo p k t e).1 with
  |some x=>(some x,p)
  |none=>runL (k+1) r (xo p k t e).2
def yg (text:qd):Option (Int×Int)×List ja:=match (runL 0 (kf text) p0).1 with
 |some e=>(some e,[])
 |none=>(none,(runL 0 (kf text) p0).2.items)
end Go.Pl
namespace Go.Proofs.YtneejjefekdgjaaGreatDoor
open Go Go.Av Go.RowKit Go.Proofs Go.Pl
theorem qyt (x:Option (Int×Int)):Pure (errP x):=by
 rcases x with _ | ⟨a,n⟩
 ·exact zm _
 ·exact qgs a n
theorem qwr (f:Fld):qjv (fldA f):=fun x hx=>by
 simp only [AV.cells,List.mem_cons,List.not_mem_nil,or_false] at hx
 rcases hx with rfl|rfl <;> exact zm _
theorem qe4 (fs:List Fld):Pure (vq fs):=qdl fun x hx=>by
 obtain⟨f,_,rfl⟩:=List.mem_map.1 hx
 exact qwr f
theorem qkm (x:ja):qjv (qei x):=fun y hy=>by
 simp only [AV.cells,List.mem_cons,List.not_mem_nil,or_false] at hy
 rcases hy with rfl|rfl|rfl
 ·exact zm _
 ·exact zm _
 ·exact qe4 _
theorem qkn (xs:List ja):Pure (qep xs):=qdl fun x hx=>by
 obtain⟨f,_,rfl⟩:=List.mem_map.1 hx
 exact qkm f
theorem qdd {x y:AV} (hx:Pure x) (hy:Pure y):Pure (.tu [x,y]):=qfi fun z hz=>by
 simp only [List.mem_cons,List.not_mem_nil,or_false] at hz
 rcases hz with rfl|rfl
 ·exact hx
 ·exact hy
def qdw (text:qd):AV:=.tu [qep (yg text).2,errP (yg text).1]
theorem qug (text:qd):Pure (qdw text):=qdd (qkn _) (qyt _)
theorem qkk {S:List AObj} {o k:Nat} {x:AObj} (h:k≠o):(S.set o x)[k]? = S[k]?:=List.getElem?_set_ne (Ne.symm h)
theorem q2z:PB 0 p0:=⟨by omega,by simp [p0],by simp [p0],by simp [p0],by simp [p0],by simp [p0],by simp [p0],by simp [p0],by simp [p0]⟩
theorem q2k (text:qd) (st:List AObj) (hl:text.length≤60000):qn E 23 [Sv text] st fun r st'=>r=qdw text∧st'=st:=by
 refine wt [.s text] (qug text) Tryz.func23 rfl rfl (fun _=>rfl) rfl fun S0=>?_
 apply qi [13]
 repeat' (first|apply And.intro|(intro h;try exact cDd)|exact⟨Tryz.call67⟩|(refine Exists.intro _ ⟨qxj _,?_⟩)|exact cSd|apply qf [13]|refine exr ?_|refine qj ?_)
 refine qog (X:=PSt×Option (Int×Int)) text 4 5 [0,1,2,3,4] (fun (p,e)=>⟨[(2,.bx 0 0),(3,.bx 1 0),(4,.bx 2 0),(15,.fn (.func 121) [] [.bx 4 0])],
   [(0,some (.cells 47 [.a jp])),(1,some (.cells 24 [.a (errP e)])),(2,some (.cells 135 [.bx 3 0])),(3,some (.cells 140 [.tp 5,.i p.frm,.b p.full,.tp 6,.tp 7,.tp 8,.i p.records])),(4,some (.cells 9 [.s text])),
    (5,some (.tip 1 9 (p.lines.map fun x=>Sv x))),(6,some (.tip 3 52 (p.items.map qei))),(7,some (.tip 1 9 (p.block.map fun x=>Sv x))),(8,some (.tip 2 111 (p.fields.map fldA)))],9⟩) _
  (fun k rest (p,e)=>e=none∧PB (4 * k) p∧k+rest.length≤text.length∧runL 0 (kf text) p0=runL k (kf rest) p)
  (fun c (p,e)=>∃ a m,c = .ret∧e=some (a,m)∧(runL 0 (kf text) p0).1=some (a,m)) (p0,none) ⟨rfl,q2z,by omega,rfl⟩ ?_ id (by omega) (fun _=>rfl) rfl (fun _=>rfl) (fun _=>rfl) rfl ?_ ?_ ?_
 ·skip
  repeat' (first|apply And.intro|(intro h;try exact cDd)|exact cSd|apply qf []|refine exr ?_|refine qj ?_)
 ·rintro k rest ⟨p,e⟩ ⟨rfl,hB,hkl,hrun⟩ hne hle
  have hcons:=qbe hne
  have hu:=qeb 10 rest
  have hpl:=qb1 10 rest
  have hr0:0<rest.length:=List.length_pos_iff.2 hne
  rw [hcons] at hrun
  simp only [runL] at hrun
  unfold qmz
  generalize hen:decide (10∈rest)=en at hrun
  generalize upto 10 rest=up at hu hrun ⊢
  have hB2:=qtc (no:=k) (text:=up) (ended:=en) hB (by omega) (by omega)
  cases hah:(xo p k up en).1 with
  |some e=>
   obtain⟨a,m⟩:=e
   rw [hah] at hrun
   simp only at hrun
   have htk:=q15 (4 * k) p k ((text.length:Int) - rest.length) up en hB (by omega) (by omega) a m hah
   refine RA.mk fun S F ρ rd=>?_
   apply qi []
   repeat' (first|apply And.intro|(intro h;try exact cDd)|(refine RB.mk fun S rd=>?_;apply qi [])|exact⟨Tryz.call68⟩|(refine js htk ?_)|(refine Exists.intro ((jv p k up en (qq up)).2,some (a,m)) ⟨⟨a,m,rfl,rfl,by rw [hrun]⟩,?_⟩)|exact cSd|apply qf []|refine exr ?_|refine qj ?_)
   all_goals (rw [← hen];rfl)
  |none=>
   rw [hah] at hrun
   simp only at hrun
   have htk:=q14 (4 * k) p k ((text.length:Int) - rest.length) up en hB (by omega) (by omega) hah
   refine RA.mk fun S F ρ rd=>?_
   apply qi []
   repeat' (first|apply And.intro|(intro h;try exact cDd)|(refine RB.mk fun S rd=>?_;apply qi [])|exact⟨Tryz.call68⟩|(refine js htk ?_)|(refine Exists.intro ((xo p k up en).2,none) ⟨⟨rfl,hB2,by omega,hrun⟩,?_⟩)|exact cSd|apply qf []|refine exr ?_|refine qj ?_)
   all_goals (rw [← hen];rfl)
 ·rintro k ⟨p,e⟩ ⟨rfl,hB,hkl,hrun⟩
  have hre:runL k (kf []) p=endP p:=by rw [qap];rfl
  rw [hre] at hrun
  have hpe:=qvc (4 * k) p hB (by omega)
  generalize endP p=fq at hrun hpe
  obtain⟨fe,q⟩:=fq
  cases fe with
  |some e=>
   have hpf:qdw text = .tu [qep [],errP (some e)]:=by unfold qdw yg;rw [hrun]
   rw [hpf]
   obtain⟨a,m⟩:=e
   repeat' (first|apply And.intro|(intro h;try exact cDd)|exact⟨Tryz.call69⟩|(refine js hpe ?_)|exact cSd|apply qf []|refine exr ?_|refine qj ?_)
  |none=>
   have hpf:qdw text = .tu [qep q.items,errP none]:=by unfold qdw yg;rw [hrun]
   rw [hpf]
   dsimp only at hpe
   repeat' (first|apply And.intro|(intro h;try exact cDd)|exact⟨Tryz.call69⟩|(refine js hpe ?_)|exact cSd|apply qf []|refine exr ?_|refine qj ?_)
 ·rintro c ⟨p,e⟩ ⟨a,m,rfl,rfl,hre⟩
  have hpf:qdw text = .tu [qep [],errP (some (a,m))]:=by unfold qdw yg;rw [hre]
  rw [hpf]
  repeat' (first|apply And.intro|(intro h;try exact cDd)|exact cSd|apply qf []|refine exr ?_|refine qj ?_)
end Go.Proofs.YtneejjefekdgjaaGreatDoor
namespace Go.Proofs.YtneejjefekdgjaaGreatDoor
open Go Go.RowKit Go.Extern.Stop Go.Stop Go.Extern Go.Proofs
theorem asT.valueOf27 (t:Addr) (w:World):(ReflectliteValue.unpack (.iface 305 (.pointer (some t)))).run Tryz.prog w
  = .ok (.agg #[.pointer (some ⟨9,305,none⟩),.pointer (some ⟨w.heap.size,0,none⟩),.int .u64 150]) (w.alloc (.cells #[.pointer (some t)] 305)):=by kernel_rfl
theorem asT.type27 (a : Addr) (w : World) : (ReflectliteValue.methodAny (ReflectliteValue.valueError "reflectlite.Value.Type" 0) (fun t _ _ _ => ReflectliteType.toType t) #[.agg #[.pointer (some ⟨9, 305, none⟩), .pointer (some a), .int .u64 150]]).run Tryz.prog w
  = .ok (.iface 381 (.agg #[.pointer (some ⟨9,305,none⟩)])) w:=by kernel_rfl
theorem asT.methodKind (h : Value) (w : World) : (Go.method 536 381 (.agg #[h]) "Kind").run Tryz.prog w = .ok (354, h) w := by kernel_rfl
theorem asT.kind27 (w:World):((ReflectliteType.abiMethod fun t=>(fun a:Nat=>Value.int IntKind.u8 (a:Int)) <$> Rtype.kind t) #[.pointer (some ⟨9,305,none⟩)]).run Tryz.prog w = .ok (.int .u8 22) w:=by kernel_rfl
theorem asT.kind25 (w:World):((ReflectliteType.abiMethod fun t=>(fun a:Nat=>Value.int IntKind.u8 (a:Int)) <$> Rtype.kind t) #[.pointer (some ⟨9,121,none⟩)]).run Tryz.prog w = .ok (.int .u8 22) w:=by kernel_rfl
theorem rlm (z:Sem Value) (f:TypeId→Addr→Nat→Nat→Sem Value) (v:Value) :
  ReflectliteValue.method z f #[v]=(do match ← ReflectliteValue.parts v with|none=>z|some (t,a,fl)=>f t a fl (fl % 32)):=rfl
theorem asT.parts27 (a:Addr) (w:World):(ReflectliteValue.parts (.agg #[.pointer (some ⟨9,305,none⟩),.pointer (some a),.int .u64 150])).run Tryz.prog w = .ok (some (305,a,150)) w:=by kernel_rfl
theorem asT.isNil27 (a p:Addr) (W:World) (ha:W.cell? a=some (.pointer (some p))) :
  (ReflectliteValue.method (ReflectliteValue.valueError "reflectlite.Value.IsNil" 0) ReflectliteValue.isNil #[.agg #[.pointer (some ⟨9, 305, none⟩), .pointer (some a), .int .u64 150]]).run Tryz.prog W = .ok (.bool false) W := by
 rw [rlm]
 simp only [Sem.run_bind,asT.parts27,Result.andThen]
 simp [ReflectliteValue.isNil,loadVar,isAgg,underlying,Tryz.underlying305,ha,Result.andThen]
theorem asT.methodElem (h : Value) (w : World) : (Go.method 536 381 (.agg #[h]) "Elem").run Tryz.prog w = .ok (372, .agg #[h]) w := by kernel_rfl
theorem asT.methodImplements (h : Value) (w : World) : (Go.method 536 381 (.agg #[h]) "Implements").run Tryz.prog w = .ok (373, .agg #[h]) w := by kernel_rfl
theorem asT.methodAssignableTo (h : Value) (w : World) : (Go.method 536 381 (.agg #[h]) "AssignableTo").run Tryz.prog w = .ok (370, .agg #[h]) w := by kernel_rfl
theorem asT.elem27 (w:World):(ReflectliteType.method ReflectliteType.elem #[.agg #[.pointer (some ⟨9,305,none⟩)]]).run Tryz.prog w = .ok (.iface 381 (.agg #[.pointer (some ⟨9,121,none⟩)])) w:=by kernel_rfl
theorem asT.implements25 (w : World) : (ReflectliteType.relation "Implements" ReflectliteType.implements_ #[.agg #[.pointer (some ⟨9, 121, none⟩)], .iface 381 (.agg #[.pointer (some ⟨9, 24, none⟩)])]).run Tryz.prog w = .ok (.bool true) w := by kernel_rfl
theorem asT.typeOf25 (v:Value) (w:World):(ReflectliteType.typeOf #[.iface 121 v]).run Tryz.prog w = .ok (.iface 381 (.agg #[.pointer (some ⟨9,121,none⟩)])) w:=by kernel_rfl
theorem asT.assignable25 (w : World) : (ReflectliteType.relation "AssignableTo" ReflectliteType.assignableTo #[.agg #[.pointer (some ⟨9, 121, none⟩)], .iface 381 (.agg #[.pointer (some ⟨9, 121, none⟩)])]).run Tryz.prog w = .ok (.bool true) w := by kernel_rfl
theorem asT.valueOf25 (e:Addr) (w:World):(ReflectliteValue.unpack (.iface 121 (.pointer (some e)))).run Tryz.prog w
  = .ok (.agg #[.pointer (some ⟨9,121,none⟩),.pointer (some ⟨w.heap.size,0,none⟩),.int .u64 150]) (w.alloc (.cells #[.pointer (some e)] 121)):=by kernel_rfl
theorem asT.elemOf27 (w:World):(Rtype.elem? 305).run Tryz.prog w = .ok (some 121) w:=by kernel_rfl
theorem asT.mk25 (p:Addr) (w:World):(ReflectliteValue.mk 121 p ReflectliteValue.flagAddr).run Tryz.prog w = .ok (.agg #[.pointer (some ⟨9,121,none⟩),.pointer (some p),.int .u64 406]) w:=by kernel_rfl
theorem asT.elemV27 (a p:Addr) (W:World) (ha:W.cell? a=some (.pointer (some p))) :
  (ReflectliteValue.method (ReflectliteValue.valueError "reflectlite.Value.Elem" 0) ReflectliteValue.elem #[.agg #[.pointer (some ⟨9, 305, none⟩), .pointer (some a), .int .u64 150]]).run Tryz.prog W
   = .ok (.agg #[.pointer (some ⟨9,121,none⟩),.pointer (some p),.int .u64 406]) W:=by
 rw [rlm]
 simp only [Sem.run_bind,asT.parts27,Result.andThen]
 simp [ReflectliteValue.elem,loadVar,isAgg,underlying,Tryz.underlying305,ha,Result.andThen,asT.elemOf27,asT.mk25]
theorem rls (v x:Value):ReflectliteValue.set #[v,x]=(do
  let (some (dst,a,fl),some (src,b,_)):=(← ReflectliteValue.parts v,← ReflectliteValue.parts x)
   | unsupported (.noEntry "extern/(internal/reflectlite.Value).Set.zeroValue")
  if fl / ReflectliteValue.flagAddr % 2 == 0 then unsupported (.noEntry "extern/(internal/reflectlite.Value).Set.unaddressable")
  let val ← loadVar src b
  if ← Rtype.directlyAssignable dst src then storeVar dst a val
  else if ← Rtype.implements dst src then
   if (← Rtype.kind src) == 20 then
    match val with
    | .nilIface => unsupported (.noEntry "extern/reflectlite: a nil value of one interface type handed on as a value of another")
    | _=>storeVar dst a val
   else storeVar dst a (.iface src val)
  else panicString ("reflectlite.Set: value of type " ++ (← Rtype.spelt src) ++ " is not assignable to type " ++ (← Rtype.spelt dst))
  pure (.tuple #[])):=rfl
theorem asT.parts25a (a:Addr) (w:World):(ReflectliteValue.parts (.agg #[.pointer (some ⟨9,121,none⟩),.pointer (some a),.int .u64 406])).run Tryz.prog w = .ok (some (121,a,406)) w:=by kernel_rfl
theorem asT.parts25 (a:Addr) (w:World):(ReflectliteValue.parts (.agg #[.pointer (some ⟨9,121,none⟩),.pointer (some a),.int .u64 150])).run Tryz.prog w = .ok (some (121,a,150)) w:=by kernel_rfl
theorem asT.direct25 (w:World):(Rtype.directlyAssignable 121 121).run Tryz.prog w = .ok true w:=by kernel_rfl
theorem asT.set25 (ta b e:Addr) (old:Value) (W:World) (hb:W.cell? b=some (.pointer (some e))) (ht:W.cell? ta=some old) (hf:W.frozen? ta=false) :
  (ReflectliteValue.set #[.agg #[.pointer (some ⟨9,121,none⟩),.pointer (some ta),.int .u64 406],.agg #[.pointer (some ⟨9,121,none⟩),.pointer (some b),.int .u64 150]]).run Tryz.prog W
   = .ok (.tuple #[]) (W.setCell ta (.pointer (some e))):=by
 rw [rls]
 simp only [Sem.run_bind,asT.parts25a,asT.parts25,Result.andThen]
 simp [ReflectliteValue.flagAddr,loadVar,isAgg,underlying,Tryz.underlying121,hb,Result.andThen,asT.direct25,storeVar,Value.cells,storeCells,Addr.add]
 rw [run_store Tryz.prog W ta _ _ (by rfl)]
 simp [ht,hf]
set_option maxHeartbeats 4000000 in
theorem q49 (e t:Addr) (old:Value) (w:World) (hg:w.cell? ⟨3,0,none⟩=some (.iface 381 (.agg #[.pointer (some ⟨9,24,none⟩)]))) (ht0:w.cell? t=some old) (hf0:w.frozen? t=false) :
  Calls Tryz.prog 232 #[.iface 121 (.pointer (some e)),.iface 305 (.pointer (some t))] w fun ev w'=>ev = .returned (.bool true)∧w'=((((w.alloc (.cells #[.pointer (some t)] 305)).alloc (.cells #[.pointer (some ⟨9,305,none⟩),.pointer (some ⟨w.heap.size,0,none⟩),.int .u64 150] 347)).alloc (.cells #[.pointer (some ⟨9,305,none⟩),.pointer (some ⟨w.heap.size,0,none⟩),.int .u64 150] 347)).alloc (.cells #[.pointer (some e)] 121)).setCell t (.pointer (some e)):=by
 have h6:=@run_callFunc_extern Tryz.prog 289 _ (fun args=>ReflectliteValue.unpack (args.getD 0 (.tuple #[]))) Tryz.func289 (by kernel_rfl) (by kernel_rfl) (by kernel_rfl) (by kernel_rfl)
 have h7 := @run_callFunc_extern Tryz.prog 290 _ (ReflectliteValue.methodAny (ReflectliteValue.valueError "reflectlite.Value.Type" 0) (fun t _ _ _ => ReflectliteType.toType t)) Tryz.func290 (by kernel_rfl) (by kernel_rfl) (by kernel_rfl) (by kernel_rfl)
 have h8 := @run_callFunc_extern Tryz.prog 291 _ (ReflectliteValue.method (ReflectliteValue.valueError "reflectlite.Value.IsNil" 0) ReflectliteValue.isNil) Tryz.func291 (by kernel_rfl) (by kernel_rfl) (by kernel_rfl) (by kernel_rfl)
 have h27:=@run_callFunc_extern Tryz.prog 354 _ (ReflectliteType.abiMethod fun t=>do pure (.int .u8 (← Rtype.kind t))) Tryz.func354 (by kernel_rfl) (by kernel_rfl) (by kernel_rfl) (by kernel_rfl)
 have h37:=@run_callFunc_extern Tryz.prog 372 _ (ReflectliteType.method ReflectliteType.elem) Tryz.func372 (by kernel_rfl) (by kernel_rfl) (by kernel_rfl) (by kernel_rfl)
 have h38 := @run_callFunc_extern Tryz.prog 373 _ (ReflectliteType.relation "Implements" ReflectliteType.implements_) Tryz.func373 (by kernel_rfl) (by kernel_rfl) (by kernel_rfl) (by kernel_rfl)
 have h10:=@run_callFunc_extern Tryz.prog 318 _ ReflectliteType.typeOf Tryz.func318 (by kernel_rfl) (by kernel_rfl) (by kernel_rfl) (by kernel_rfl)
 have h35 := @run_callFunc_extern Tryz.prog 370 _ (ReflectliteType.relation "AssignableTo" ReflectliteType.assignableTo) Tryz.func370 (by kernel_rfl) (by kernel_rfl) (by kernel_rfl) (by kernel_rfl)
 have h11 := @run_callFunc_extern Tryz.prog 319 _ (ReflectliteValue.method (ReflectliteValue.valueError "reflectlite.Value.Elem" 0) ReflectliteValue.elem) Tryz.func319 (by kernel_rfl) (by kernel_rfl) (by kernel_rfl) (by kernel_rfl)
 have h12:=@run_callFunc_extern Tryz.prog 320 _ ReflectliteValue.set Tryz.func320 (by kernel_rfl) (by kernel_rfl) (by kernel_rfl) (by kernel_rfl)
 have tO:=asT.typeOf25
 have mA:=asT.methodAssignableTo
 have a25:=asT.assignable25
 have v25:=asT.valueOf25
 have f6:=asT.valueOf27
 have f7:=asT.type27
 have mK:=asT.methodKind
 have mE:=asT.methodElem
 have mI:=asT.methodImplements
 have k27:=asT.kind27
 have k25:=asT.kind25
 have e27:=asT.elem27
 have i25:=asT.implements25
 have n8:=asT.isNil27 ⟨w.heap.size,0,none⟩ t ((w.alloc (.cells #[.pointer (some t)] 305)).alloc (.cells #[.pointer (some ⟨9,305,none⟩),.pointer (some ⟨w.heap.size,0,none⟩),.int .u64 150] 347)) (by simp)
 have hlt:3<w.heap.size:=by
  rcases Nat.lt_or_ge 3 w.heap.size with h|h
  ·exact h
  ·simp [World.cell?,Array.getElem?_eq_none h] at hg
 have hg2:((w.alloc (.cells #[.pointer (some t)] 305)).alloc (.cells #[.pointer (some ⟨9,305,none⟩),.pointer (some ⟨w.heap.size,0,none⟩),.int .u64 150] 347)).cell? ⟨3,0,none⟩=some (.iface 381 (.agg #[.pointer (some ⟨9,24,none⟩)])):=by
  rw [World.cell?_alloc_lt _ _ ⟨3,0,none⟩ (by first|(simp;done)|(simp;omega)),World.cell?_alloc_lt _ _ ⟨3,0,none⟩ hlt];exact hg
 have htl:t.block<w.heap.size:=by
  rcases Nat.lt_or_ge t.block w.heap.size with h|h
  ·exact h
  ·simp [World.cell?,Array.getElem?_eq_none h] at ht0
 have el:=asT.elemV27 ⟨w.heap.size,0,none⟩ t (((w.alloc (.cells #[.pointer (some t)] 305)).alloc (.cells #[.pointer (some ⟨9,305,none⟩),.pointer (some ⟨w.heap.size,0,none⟩),.int .u64 150] 347)).alloc (.cells #[.pointer (some ⟨9,305,none⟩),.pointer (some ⟨w.heap.size,0,none⟩),.int .u64 150] 347)) (by rw [World.cell?_alloc_lt _ _ ⟨w.heap.size,0,none⟩ (by first|(simp;done)|(simp;omega))];simp)
 have st:=asT.set25 t ⟨w.heap.size+1+1+1,0,none⟩ e old ((((w.alloc (.cells #[.pointer (some t)] 305)).alloc (.cells #[.pointer (some ⟨9,305,none⟩),.pointer (some ⟨w.heap.size,0,none⟩),.int .u64 150] 347)).alloc (.cells #[.pointer (some ⟨9,305,none⟩),.pointer (some ⟨w.heap.size,0,none⟩),.int .u64 150] 347)).alloc (.cells #[.pointer (some e)] 121))
  (by rw [World.cell?_alloc_at _ _ _ _ (by simp)];rfl)
  (by rw [World.cell?_alloc_lt _ _ t (by first|(simp;done)|(simp;omega)),World.cell?_alloc_lt _ _ t (by first|(simp;done)|(simp;omega)),World.cell?_alloc_lt _ _ t (by first|(simp;done)|(simp;omega)),World.cell?_alloc_lt _ _ t htl];exact ht0)
  (by rw [World.frozen?_alloc_old _ _ t (by first|(simp;done)|(simp;omega)),World.frozen?_alloc_old _ _ t (by first|(simp;done)|(simp;omega)),World.frozen?_alloc_old _ _ t (by first|(simp;done)|(simp;omega)),World.frozen?_alloc_old _ _ t (Nat.ne_of_lt htl)];exact hf0)
 go_enter Tryz.func232,Tryz.ntmps232
 go_wp2
 refine wp_loop_rounds 1 ?_
 rw [rounds_succ]
 go_wp2
 go_ret
 exact⟨rfl,rfl⟩
theorem asT.typeOf31 (v:Value) (w:World):(ReflectliteType.typeOf #[.iface 62 v]).run Tryz.prog w = .ok (.iface 381 (.agg #[.pointer (some ⟨9,62,none⟩)])) w:=by kernel_rfl
theorem asT.assignable31 (w : World) : (ReflectliteType.relation "AssignableTo" ReflectliteType.assignableTo #[.agg #[.pointer (some ⟨9, 62, none⟩)], .iface 381 (.agg #[.pointer (some ⟨9, 121, none⟩)])]).run Tryz.prog w = .ok (.bool false) w := by kernel_rfl
theorem asT.no230 (v:Value) (xT:TypeId) (w:World):(Instr.typeAssert (.iface 62 v) xT 386 true).run Tryz.prog w = .ok (.tuple #[.nilIface,.bool false]) w:=run_typeAssert_lacksB Tryz.underlying386 (by kernel_rfl) (by kernel_rfl) v xT w
theorem asT.no233 (v:Value) (xT:TypeId) (w:World):(Instr.typeAssert (.iface 62 v) xT 389 true).run Tryz.prog w = .ok (.tuple #[.nilIface,.bool false]) w:=run_typeAssert_lacksB Tryz.underlying389 (by kernel_rfl) (by kernel_rfl) v xT w
theorem asT.no234 (v:Value) (xT:TypeId) (w:World):(Instr.typeAssert (.iface 62 v) xT 390 true).run Tryz.prog w = .ok (.tuple #[.nilIface,.bool false]) w:=run_typeAssert_lacksB Tryz.underlying390 (by kernel_rfl) (by kernel_rfl) v xT w
set_option maxHeartbeats 4000000 in
theorem q3e (n:Int) (t:Addr) (old:Value) (w:World) (hg:w.cell? ⟨3,0,none⟩=some (.iface 381 (.agg #[.pointer (some ⟨9,24,none⟩)]))) (ht0:w.cell? t=some old) :
  Calls Tryz.prog 232 #[.iface 62 (.int .i64 n),.iface 305 (.pointer (some t))] w fun ev w'=>ev = .returned (.bool false)∧Below w.heap.size w w':=by
 have h6:=@run_callFunc_extern Tryz.prog 289 _ (fun args=>ReflectliteValue.unpack (args.getD 0 (.tuple #[]))) Tryz.func289 (by kernel_rfl) (by kernel_rfl) (by kernel_rfl) (by kernel_rfl)
 have h7 := @run_callFunc_extern Tryz.prog 290 _ (ReflectliteValue.methodAny (ReflectliteValue.valueError "reflectlite.Value.Type" 0) (fun t _ _ _ => ReflectliteType.toType t)) Tryz.func290 (by kernel_rfl) (by kernel_rfl) (by kernel_rfl) (by kernel_rfl)
 have h8 := @run_callFunc_extern Tryz.prog 291 _ (ReflectliteValue.method (ReflectliteValue.valueError "reflectlite.Value.IsNil" 0) ReflectliteValue.isNil) Tryz.func291 (by kernel_rfl) (by kernel_rfl) (by kernel_rfl) (by kernel_rfl)
 have h27:=@run_callFunc_extern Tryz.prog 354 _ (ReflectliteType.abiMethod fun t=>do pure (.int .u8 (← Rtype.kind t))) Tryz.func354 (by kernel_rfl) (by kernel_rfl) (by kernel_rfl) (by kernel_rfl)
 have h37:=@run_callFunc_extern Tryz.prog 372 _ (ReflectliteType.method ReflectliteType.elem) Tryz.func372 (by kernel_rfl) (by kernel_rfl) (by kernel_rfl) (by kernel_rfl)
 have h38 := @run_callFunc_extern Tryz.prog 373 _ (ReflectliteType.relation "Implements" ReflectliteType.implements_) Tryz.func373 (by kernel_rfl) (by kernel_rfl) (by kernel_rfl) (by kernel_rfl)
 have h10:=@run_callFunc_extern Tryz.prog 318 _ ReflectliteType.typeOf Tryz.func318 (by kernel_rfl) (by kernel_rfl) (by kernel_rfl) (by kernel_rfl)
 have h35 := @run_callFunc_extern Tryz.prog 370 _ (ReflectliteType.relation "AssignableTo" ReflectliteType.assignableTo) Tryz.func370 (by kernel_rfl) (by kernel_rfl) (by kernel_rfl) (by kernel_rfl)
 have h11 := @run_callFunc_extern Tryz.prog 319 _ (ReflectliteValue.method (ReflectliteValue.valueError "reflectlite.Value.Elem" 0) ReflectliteValue.elem) Tryz.func319 (by kernel_rfl) (by kernel_rfl) (by kernel_rfl) (by kernel_rfl)
 have h12:=@run_callFunc_extern Tryz.prog 320 _ ReflectliteValue.set Tryz.func320 (by kernel_rfl) (by kernel_rfl) (by kernel_rfl) (by kernel_rfl)
 have tO:=asT.typeOf31
 have mA:=asT.methodAssignableTo
 have a25:=asT.assignable31
 have f6:=asT.valueOf27
 have f7:=asT.type27
 have mK:=asT.methodKind
 have mE:=asT.methodElem
 have mI:=asT.methodImplements
 have k27:=asT.kind27
 have k25:=asT.kind25
 have e27:=asT.elem27
 have i25:=asT.implements25
 have n8:=asT.isNil27 ⟨w.heap.size,0,none⟩ t ((w.alloc (.cells #[.pointer (some t)] 305)).alloc (.cells #[.pointer (some ⟨9,305,none⟩),.pointer (some ⟨w.heap.size,0,none⟩),.int .u64 150] 347)) (by simp)
 have hlt:3<w.heap.size:=by
  rcases Nat.lt_or_ge 3 w.heap.size with h|h
  ·exact h
  ·simp [World.cell?,Array.getElem?_eq_none h] at hg
 have hg2:((w.alloc (.cells #[.pointer (some t)] 305)).alloc (.cells #[.pointer (some ⟨9,305,none⟩),.pointer (some ⟨w.heap.size,0,none⟩),.int .u64 150] 347)).cell? ⟨3,0,none⟩=some (.iface 381 (.agg #[.pointer (some ⟨9,24,none⟩)])):=by
  rw [World.cell?_alloc_lt _ _ ⟨3,0,none⟩ (by first|(simp;done)|(simp;omega)),World.cell?_alloc_lt _ _ ⟨3,0,none⟩ hlt];exact hg
 have htl:t.block<w.heap.size:=by
  rcases Nat.lt_or_ge t.block w.heap.size with h|h
  ·exact h
  ·simp [World.cell?,Array.getElem?_eq_none h] at ht0
 have n1:=asT.no230
 have n2:=asT.no233
 have n3:=asT.no234
 go_enter Tryz.func232,Tryz.ntmps232
 go_wp2
 refine wp_loop_rounds 1 ?_
 rw [rounds_succ]
 go_wp2
 go_ret
 exact⟨rfl,(((Below.refl _ _).alloc (Nat.le_refl _) _).alloc (by simp) _).alloc (by first|(simp;done)|(simp;omega)) _⟩
end Go.Proofs.YtneejjefekdgjaaGreatDoor
namespace Go.Proofs.YtneejjefekdgjaaGreatDoor
open Go Go.Av Go.RowKit Go.Proofs Go.Pl
theorem qul {w:World} {b:Nat} {T:TypeId} {fz:Nat×Nat} {c:Array Value} (v:Value) (hc:w.heap[b]? = some (.cells c T fz)) (h1:c.size=1):w.setCell ⟨b,0,none⟩ v=w.setRow b #[v]:=by
 unfold World.setCell World.setRow
 congr 1
 apply Array.ext_getElem?
 intro i
 rw [Array.getElem?_modify,Array.getElem?_modify]
 by_cases hi:b=i
 ·subst hi
  rw [if_pos rfl,if_pos rfl,hc]
  have:c.setIfInBounds 0 v = #[v]:=by
   apply Array.ext
   ·simp [h1]
   ·intro i h2 h3
    have:i=0:=by simp at h3;omega
    subst this
    simp
  simp [this]
 ·rw [if_neg hi,if_neg hi]
theorem q3d (a n:Int) (o:Nat) (st:List AObj) (ho:st[o]? = some (.cells 0 121 [.v (.pointer none)])):qn E 232 [qen a n,.ifc 305 (.bx o 0 0)] st fun r st'=>r=Bv true∧st'=st.set o (.cells 0 121 [.pp [Iv a,.ifc 62 (Iv n)]]):=by
 refine⟨fun B0 w0 G vals w hL hA hR=>?_⟩
 obtain⟨v1,v2,rfl⟩:∃ x y,vals = #[x,y]:=by
  have:=hR.1
  match vals,this with
  | ⟨[x,y]⟩,_=>exact⟨x,y,rfl⟩
 have h1:=hR.2 0 _ v1 rfl rfl
 have h2:=hR.2 1 _ v2 rfl rfl
 unfold qen at h1
 cases h1 with
 |ifc _ _ y1 h1=>
  cases h2 with
  |ifc _ _ y2 h2=>
   have hpp:=h1
   cases h1 with
   |pp _ b off pub hp hlen hr=>
    cases h2 with
    |bx _ _ _ b2 hn hv hb=>
     obtain⟨_,g1,g2,g3,c,g4,g5,g6⟩:=hA.ob o _ ho
     have hb:=hb g1
     subst hb
     have hc1:c.size=1:=by simpa using g5.symm
     have hl:=(hL w hA.below).ert
     have hcell:w.cell? ⟨(G.ob o).blk,0,none⟩=some c[0]:=by simp [World.cell?,g4,hc1]
     have hfz:w.frozen? ⟨(G.ob o).blk,0,none⟩=false:=by simp [World.frozen?,g4]
     have hlt:(G.ob o).blk<w.heap.size:=(Array.getElem?_eq_some_iff.1 g4).1
     refine (q49 ⟨b,off,none⟩ ⟨(G.ob o).blk,0,none⟩ c[0] w hl hcell hfz).mono ?_
     rintro e w' ⟨rfl,rfl⟩
     have hb1:Below w.heap.size w ((((w.alloc (.cells #[.pointer (some ⟨(G.ob o).blk,0,none⟩)] 305)).alloc (.cells #[.pointer (some ⟨9,305,none⟩),.pointer (some ⟨w.heap.size,0,none⟩),.int .u64 150] 347)).alloc (.cells #[.pointer (some ⟨9,305,none⟩),.pointer (some ⟨w.heap.size,0,none⟩),.int .u64 150] 347)).alloc (.cells #[.pointer (some ⟨b,off,none⟩)] 121)):=
      ((((Below.refl _ _).alloc (Nat.le_refl _) _).alloc (by simp) _).alloc (by first|(simp;done)|(simp;omega)) _).alloc (by first|(simp;done)|(simp;omega)) _
     have hA1:=hA.fresh hb1
     obtain⟨_,k1,k2,k3,c',k4,k5,k6⟩:=hA1.ob o _ ho
     have hc1':c'.size=1:=by simpa using k5.symm
     refine⟨.bool true,G,Bv true,_,rfl,.refl G,?_,.v _,rfl,rfl⟩
     rw [qul _ k4 hc1']
     exact hA1.setRow ho (by simp) fun i x y hx hy=>by
      match i with
      | 0=>simp at hx hy;subst hx;subst hy;exact hpp
      |i+1=>simp at hx
theorem q0z (n:Int) (o:Nat) (st:List AObj) (ho:st[o]? = some (.cells 0 121 [.v (.pointer none)])):qn E 232 [.ifc 62 (Iv n),.ifc 305 (.bx o 0 0)] st fun r st'=>r=Bv false∧st'=st:=by
 refine⟨fun B0 w0 G vals w hL hA hR=>?_⟩
 obtain⟨v1,v2,rfl⟩:∃ x y,vals = #[x,y]:=by
  have:=hR.1
  match vals,this with
  | ⟨[x,y]⟩,_=>exact⟨x,y,rfl⟩
 have h1:=hR.2 0 _ v1 rfl rfl
 have h2:=hR.2 1 _ v2 rfl rfl
 cases h1 with
 |ifc _ _ y1 h1=>
  cases h2 with
  |ifc _ _ y2 h2=>
   cases h1 with
   |v=>
    cases h2 with
    |bx _ _ _ b2 hn hv hb=>
     obtain⟨_,g1,g2,g3,c,g4,g5,g6⟩:=hA.ob o _ ho
     have hb:=hb g1
     subst hb
     have hc1:c.size=1:=by simpa using g5.symm
     have hl:=(hL w hA.below).ert
     have hcell:w.cell? ⟨(G.ob o).blk,0,none⟩=some c[0]:=by simp [World.cell?,g4,hc1]
     refine (q3e n ⟨(G.ob o).blk,0,none⟩ c[0] w hl hcell).mono ?_
     rintro e w' ⟨rfl,hb⟩
     exact⟨_,G,Bv false,st,rfl,.refl G,hA.fresh hb,.v _,rfl,rfl⟩
end Go.Proofs.YtneejjefekdgjaaGreatDoor
namespace Go.Proofs.YtneejjefekdgjaaGreatDoor
open Go Go.Av Go.RowKit Go.Extern.Stop Go.Stop Go.Extern Go.Proofs
theorem isT.has (v:Value) (xT:TypeId) (w:World):(Instr.typeAssert (.iface 121 v) xT 389 true).run Tryz.prog w = .ok (.tuple #[.iface 121 v,.bool true]) w:=run_typeAssert_hasB Tryz.underlying389 (by kernel_rfl) v xT w
theorem isT.typeOf (v:Value) (w:World):(ReflectliteType.typeOf #[.iface 62 v]).run Tryz.prog w = .ok (.iface 381 (.agg #[.pointer (some ⟨9,62,none⟩)])) w:=by kernel_rfl
theorem isT.cmp (w : World) : (ReflectliteType.method (fun t => do Rtype.noPackHeld "Comparable" t; (fun a => Value.bool a.comparable) <$> typeInfo t) #[.agg #[.pointer (some ⟨9, 62, none⟩)]]).run Tryz.prog w = .ok (.bool true) w := by kernel_rfl
end Go.Proofs.YtneejjefekdgjaaGreatDoor
namespace Go.Pl
open Go Go.Proofs
inductive ErrV where
 |no
 |num (n:Int)
 |at' (a n:Int)
 deriving DecidableEq
def ErrV.code:ErrV→Int
 | .no=>0
 | .num n=>n
 | .at' _ n=>n
def ErrV.pos:ErrV→Int
 | .no=> -9
 | .num _=> -9
 | .at' a _=>a
def qae:Nat→List Fld→ErrV
 | _,[]=>.no
 |k,f::r=>if wv f=0 then qae (k+1) r else .at' k (wv f)
def vp (fs:List Fld):ErrV:=if fs=[] then .num 2 else if 40<fs.length then .num 11 else qae 0 fs
theorem qix:∀ (k:Nat) (r:List Fld),(qae k r).code=0↔qae k r = .no
 |k,[]=>by simp [qae,ErrV.code]
 |k,f::r=>by
  unfold qae
  split
  ·exact qix _ r
  ·rename_i h
   simp [ErrV.code,h]
theorem qiw (fs:List Fld):(vp fs).code=0↔vp fs = .no:=by
 unfold vp
 split
 ·simp [ErrV.code]
 ·split
  ·simp [ErrV.code]
  ·exact qix _ _
end Go.Pl
namespace Go.Proofs.YtneejjefekdgjaaGreatDoor
open Go Go.Av Go.RowKit Go.Proofs Go.Pl
theorem qn4 {st st':List AObj} (h:∀ k,k<st.length→st'[k]? = st[k]?):∃ ext,st'=st++ext:=by
 refine qhn ?_ h
 rcases Nat.eq_zero_or_pos st.length with h0|h0
 ·omega
 ·have h1:=h (st.length - 1) (by omega)
  have h2:st[st.length - 1]? = some (st[st.length - 1]'(by omega)):=List.getElem?_eq_getElem (by omega)
  have:=lt_of_getElem? (h1.trans h2)
  omega
def gErr (x:za):ErrV:=if x.kind=2 then (if x.fields=[] then .no else .num 2) else if x.kind=1∨x.kind=3 then vp x.fields else .num 2
def qeg:Nat→List za→ErrV
 | _,[]=>.no
 |k,x::r=>if (gErr x).code=0 then qeg (k+1) r else .at' k (gErr x).code
def eErr (b:List za):ErrV:=if b.length<1∨40<b.length then .num 1 else qeg 0 b
theorem qi4 (x:za):(gErr x).code=0↔gErr x = .no:=by
 unfold gErr
 split
 ·split <;> simp [ErrV.code]
 ·split
  ·exact qiw _
  ·simp [ErrV.code]
def errA:ErrV→AV
 | .no=>.v .nilIface
 | .num n=>.ifc 62 (Iv n)
 | .at' a n=>.ifc 121 (.pp [Iv a,.ifc 62 (Iv n)])
theorem yq (e:ErrV):Pure (errA e):=by
 cases e with
 |no=>exact zm _
 |num n=>exact qd8 (zm _)
 |at' a n=>exact qgs a n
def KeyB (fs:List Fld):Prop:=∀ f∈fs,f.1.length<4294967281
theorem q1h {fs:List Fld} {i:Nat} {x:Fld} (h:fs[i]? = some x):(fs.map fldA)[i]? = some (fldA x):=by simp [h]
theorem qyq {b:List za} {i:Nat} {x:za} (h:b[i]? = some x):(b.map qbm)[i]? = some (qbm x):=by simp [h]
theorem qyk {fs:List Fld} (h:¬ 0<fs.length):vp fs = .num 2:=if_pos (List.length_eq_zero_iff.1 (by omega))
theorem qwd {fs:List Fld} (h:40<fs.length):vp fs = .num 11:=(if_neg fun h0=>by simp [h0] at h).trans (if_pos h)
theorem qyl {fs:List Fld} (h0:0<fs.length) (h:¬ 40<fs.length):vp fs=qae 0 fs:=(if_neg (List.length_pos_iff.1 h0)).trans (if_neg h)
theorem qh4 (fs:List Fld) (st:List AObj) (e:ErrV) (h:vp fs=e) (hK:KeyB fs) (hl:fs.length<9223372036854775808):qn E 228 [vq fs] st fun r st'=>r=errA e∧st'=st:=by
 subst h
 refine wt [.a (vq fs)] (yq _) Tryz.func228 rfl rfl (fun _=>rfl) rfl fun S0=>?_
 have hml:(fs.map fldA).length=fs.length:=by simp
 apply qi []
 repeat' (first|apply And.intro|(intro h;try exact cDd)|exact cSd|apply qf []|refine exr ?_|refine qj ?_)
 ·rw [qyk (by omega)];rfl
 ·rw [qwd (by omega)];rfl
 rw [qyl (by omega) (by omega)]
 refine wq (X:=Nat) (fun k=>⟨[(16,.a (vq fs)),(17,.i (fs.map fldA).length),(18,.i k)],[],0⟩) (fun k=>k≤fs.length∧qae k (fs.drop k)=qae 0 fs) (fun k=>fs.length - k) 0 ⟨by omega,rfl⟩ ?_ ?_
 ·skip
  repeat' (first|apply And.intro|(intro h;try exact cDd)|exact cSd|apply qf []|refine exr ?_|refine qj ?_)
 ·rintro k ⟨hk,hc⟩
  by_cases hlt:k<fs.length
  ·obtain⟨y,hy⟩:∃ y,fs[k]? = some y:=⟨_,List.getElem?_eq_getElem hlt⟩
   have hget:=q1h hy
   have hky:=hK y (List.mem_of_getElem? hy)
   obtain⟨_,hye⟩:=List.getElem?_eq_some_iff.1 hy
   rw [List.drop_eq_getElem_cons hlt,hye,qae] at hc
   rw [← hc]
   by_cases ha:wv y=0
   ·have hc4:=fun st=>qft y st hky ha
    apply qi [4]
    repeat' (first|apply And.intro|(intro h;try exact cDd)|(refine Exists.intro (k) ⟨by omega,_,hget,?_⟩)|exact⟨Tryz.call273⟩|refine cpe hc4 ?_|(refine Exists.intro (k+1) ⟨⟨by omega,by simp_all⟩,by omega,?_⟩)|exact cSd|apply qf [4]|refine exr ?_|refine qj ?_)
   ·have hc4:=fun st=>qfu y st hky ha
    rw [if_neg ha]
    apply qi [4]
    repeat' (first|apply And.intro|(intro h;try exact cDd)|(refine Exists.intro (k) ⟨by omega,_,hget,?_⟩)|exact⟨Tryz.call273⟩|refine cpe hc4 ?_|exact cSd|apply qf [4]|refine exr ?_|refine qj ?_)
  ·rw [List.drop_eq_nil_of_le (by omega),qae] at hc
   rw [← hc]
   apply qi []
   repeat' (first|apply And.intro|(intro h;try exact cDd)|exact cSd|apply qf []|refine exr ?_|refine qj ?_)
theorem q3o (x:za) (st:List AObj) (e:ErrV) (h:gErr x=e) (hK:KeyB x.fields) (hl:x.fields.length<9223372036854775808):qn E 152 [qbm x] st fun r st'=>r=errA e∧st'=st:=by
 subst h
 refine wt [.a (qbm x)] (yq _) Tryz.func152 rfl rfl (fun _=>rfl) rfl fun S0=>?_
 have hml:(x.fields.map fldA).length=x.fields.length:=by simp
 have hpos:x.fields=[]↔x.fields.length=0:=by simp
 have hc6:=fun st=>qh4 x.fields st _ rfl hK hl
 unfold gErr
 simp only [hpos]
 generalize vp x.fields=e at *
 cases e
 all_goals apply qi [1]
 repeat' (first|apply And.intro|(intro h;try exact cDd)|exact⟨Tryz.call228⟩|refine cpe hc6 ?_|exact cSd|apply qf [1]|refine exr ?_|refine qj ?_)
 all_goals clear hc6
 all_goals grind [errA]
theorem q1a (n:Int) (st:List AObj):qn E 157 [.ifc 62 (Iv n)] st fun r st'=>r = .ifc 62 (Iv n)∧st'=st:=by
 refine zz (qd8 (zm _)) (qx Tryz.func157 rfl (Nat.le_of_ble_eq_true rfl) ?_)
 repeat' (first|apply qv|apply qm|apply qk|apply qp|apply qo|(apply qc;exact rfl;apply cd_f;exact cRa)|(apply qy;exact rfl;exact rfl)|(apply z4;exact rfl;exact rfl)|apply q9|apply zj|(apply qz;exact Tryz.call232;exact q0z _ (st.length+0) _ (qag rfl)))
 exact qu rfl (zp rfl) ⟨rfl,_,rfl⟩
theorem q09 (a n:Int) (st:List AObj):qn E 157 [qen a n] st fun r st'=>r = .ifc 62 (Iv n)∧st'=st:=by
 refine zz (qd8 (zm _)) (qx Tryz.func157 rfl (Nat.le_of_ble_eq_true rfl) ?_)
 repeat' (first|apply qv|apply qm|apply qk|apply qp|apply qo|(apply qc;exact rfl;apply cd_t;exact cRa)|(apply qy;exact rfl;exact rfl)|(apply z4;exact rfl;exact rfl)|(apply q7;(iterate 4 exact rfl))|(apply zf;(iterate 3 exact rfl))|(apply zi;exact rfl;exact rfl)|apply zj|(apply qz;exact Tryz.call232;exact q3d a n (st.length+0) _ (qag rfl))|(apply wy;exact rfl;(focus first|assumption|(repeat' (first|assumption|exact qaf|exact qag rfl|apply we|apply xh|omega|apply qdc)));exact rfl;exact rfl))
 exact qu rfl (zp rfl) ⟨rfl,qn4 fun j hj=>(qkk (by omega)).trans (List.getElem?_append_left hj)⟩
theorem qk3 (k:Int) (e:ErrV) (st:List AObj) (he:e.code≠0):qn E 95 [Iv k,errA e] st fun r st'=>r=errA (.at' k e.code)∧st'=st:=by
 refine zz (yq _) (qx Tryz.func95 rfl (Nat.le_of_ble_eq_true rfl) ?_)
 cases e with
 |no=>exact absurd rfl he
 |num n=>
  repeat' (first|(apply qit;(iterate 3 exact rfl))|apply qv|apply qm|apply qk|apply qp|apply qo|(apply qy;exact rfl;exact rfl)|(apply jt;(iterate 3 exact rfl))|apply zj|(apply qz;exact Tryz.call157;exact q1a _ _))
  exact qu rfl (zp rfl) ⟨rfl,_,rfl⟩
 |at' a n=>
  repeat' (first|(apply qit;(iterate 3 exact rfl))|apply qv|apply qm|apply qk|apply qp|apply qo|(apply qy;exact rfl;exact rfl)|(apply jt;(iterate 3 exact rfl))|apply zj|(apply qz;exact Tryz.call157;exact q09 a n _))
  exact qu rfl (zp rfl) ⟨rfl,_,rfl⟩
structure EdB (x:za):Prop where
 keys:KeyB x.fields
 len:x.fields.length<9223372036854775808
 id1 : -9223372036854775808≤x.id
 id2:x.id≤9223372036854775807
@[reducible] def qai (b : List za) : AV := .sl 3 (b.map qbm) none
theorem q1b (b:List za) (st:List AObj) (e:ErrV) (h:eErr b=e) (hB:∀ x∈b,EdB x) (hl:b.length<9223372036854775808):qn E 92 [qai b] st fun r st'=>r=errA e∧st'=st:=by
 subst h
 refine wt [.a (qai b)] (yq _) Tryz.func92 rfl rfl (fun _=>rfl) rfl fun S0=>?_
 have hml:(b.map qbm).length=b.length:=by simp
 have h1:b.length<1∨40<b.length→eErr b = .num 1:=fun h=>if_pos h
 have hr:¬ (b.length<1∨40<b.length)→eErr b=qeg 0 b:=fun h=>if_neg h
 apply qi []
 repeat' (first|apply And.intro|(intro h;try exact cDd)|exact cSd|apply qf []|refine exr ?_|refine qj ?_)
 ·rw [h1 (by omega)];rfl
 ·rw [h1 (by omega)];rfl
 rw [hr (by omega)]
 refine wq (X:=Nat) (fun k=>⟨[(15,.a (qai b)),(16,.i (b.map qbm).length),(17,.i k)],[],0⟩) (fun k=>k≤b.length∧qeg k (b.drop k)=qeg 0 b) (fun k=>b.length - k) 0 ⟨by omega,rfl⟩ ?_ ?_
 ·skip
  repeat' (first|apply And.intro|(intro h;try exact cDd)|exact cSd|apply qf []|refine exr ?_|refine qj ?_)
 ·rintro k ⟨hk,hc⟩
  by_cases hlt:k<b.length
  ·obtain⟨y,hy⟩:∃ y,b[k]? = some y:=⟨_,List.getElem?_eq_getElem hlt⟩
   have hget:=qyq hy
   have hky:=hB y (List.mem_of_getElem? hy)
   obtain⟨_,hye⟩:=List.getElem?_eq_some_iff.1 hy
   rw [List.drop_eq_getElem_cons hlt,hye,qeg] at hc
   have hc9:=fun st=>q3o y st _ rfl hky.keys hky.len
   have hcf:=fun st=>qk3 k (gErr y) st
   rw [← hc]
   cases hg:gErr y
   all_goals rw [hg] at hc hc9 hcf
   ·apply qi [4]
    repeat' (first|apply And.intro|(intro h;try exact cDd)|(refine Exists.intro (k) ⟨by omega,_,hget,?_⟩)|exact⟨Tryz.call152⟩|refine cpe hc9 ?_|(refine Exists.intro (k+1) ⟨⟨by omega,(if_pos rfl).symm⟩,by omega,?_⟩)|exact cSd|apply qf [4]|refine exr ?_|refine qj ?_)
   all_goals have hgc:=fun h=>qi4 y |>.1 h
   all_goals rw [hg] at hgc
   all_goals rw [if_neg fun h=>nomatch hgc h]
   ·have hcg:=fun st=>hcf st fun h=>nomatch hgc h
    apply qi [4]
    repeat' (first|apply And.intro|(intro h;try exact cDd)|(refine Exists.intro (k) ⟨by omega,_,hget,?_⟩)|exact⟨Tryz.call152⟩|refine cpe hc9 ?_|exact⟨Tryz.call95⟩|refine cpe hcg ?_|exact cSd|apply qf [4]|refine exr ?_|refine qj ?_)
   ·have hcg:=fun st=>hcf st fun h=>nomatch hgc h
    apply qi [4]
    repeat' (first|apply And.intro|(intro h;try exact cDd)|(refine Exists.intro (k) ⟨by omega,_,hget,?_⟩)|exact⟨Tryz.call152⟩|refine cpe hc9 ?_|exact⟨Tryz.call95⟩|refine cpe hcg ?_|exact cSd|apply qf [4]|refine exr ?_|refine qj ?_)
  ·rw [List.drop_eq_nil_of_le (by omega),qeg] at hc
   rw [← hc]
   apply qi []
   repeat' (first|apply And.intro|(intro h;try exact cDd)|exact cSd|apply qf []|refine exr ?_|refine qj ?_)
def qmj (x:za):qd:=qgk x++[10]++qn6 [32,32] (wx x.fields)
def encF (b:List za):qd:=b.flatMap qmj
theorem qmd:∀ (k:Nat) (r:List Fld),qae k r = .no↔∀ f∈r,vb f
 |k,[]=>by simp [qae]
 |k,f::r=>by
  unfold qae
  split
  ·rename_i h
   rw [qmd (k+1) r]
   have:=(qbz f).1 h
   simp [this]
  ·rename_i h
   have h2:¬ vb f:=fun g=>h ((qbz f).2 g)
   simp [h2]
theorem qhj {fs:List Fld} (h:vp fs = .no):fs≠[]∧fs.length≤40∧∀ f∈fs,vb f:=by
 unfold vp at h
 split at h
 ·exact absurd h (by simp)
 ·split at h
  ·exact absurd h (by simp)
  ·exact⟨by assumption,by omega,(qmd _ _).1 h⟩
theorem qu3 {x:za} (h:gErr x = .no):x.fields.length≤40∧∀ f∈x.fields,vb f:=by
 unfold gErr at h
 split at h
 ·split at h
  ·rename_i h0;rw [h0];simp
  ·exact absurd h (by simp)
 ·split at h
  ·exact (qhj h).2
  ·exact absurd h (by simp)
theorem qre:∀ (k:Nat) (b:List za),qeg k b = .no↔∀ x∈b,gErr x = .no
 |k,[]=>by simp [qeg]
 |k,x::b=>by
  unfold qeg
  split
  ·rename_i h
   rw [qre (k+1) b]
   have:=(qi4 x).1 h
   simp [this]
  ·rename_i h
   have h2:¬ gErr x = .no:=fun g=>h ((qi4 x).2 g)
   simp [h2]
theorem qn2 {b:List za} (h:eErr b = .no):1≤b.length∧b.length≤40∧∀ x∈b,gErr x = .no:=by
 unfold eErr at h
 split at h
 ·exact absurd h (by simp)
 ·exact⟨by omega,by omega,(qre _ _).1 h⟩
theorem q5t {fs:List Fld} (hl:fs.length≤40) (h:∀ f∈fs,vb f):q2u fs:=⟨by omega,fun f hf=>by
 have:=h f hf
 have h1:=this.1.2.1
 have h2:=this.2
 omega⟩
theorem qwt (xs:List FldV) (st:List AObj) (hl:xs.length≤40) (h:∀ f∈xs,vb f):qn E 167 [vq xs] st fun r st'=>r = .tu [Sv (wx xs),.v .nilIface]∧st'=st:=by
 have:=q5r xs st (q5t hl h)
 unfold qmr at this
 have h0:=(qi0 xs).2 h
 rw [if_pos h0,h0] at this
 exact this
end Go.Proofs.YtneejjefekdgjaaGreatDoor
namespace Go.Av
open Go Go.RowKit
theorem q2q {b:Nat} {st l:List AObj} {sz:Nat} {T:TypeId} {xs:List AV} {c:AV} (h:TipO b st sz T xs c):TipO b (st++l) sz T xs c:=by
 rcases h with h|h
 ·exact .inl (qf6 h)
 ·exact .inr h
theorem q4z {b:Nat} {st st':List AObj} {sz:Nat} {T:TypeId} {xs:List AV} {c:AV} (hs:∀ (t m sz:Nat) (T:TypeId),st[t]? = some (AObj.tip m sz T)→st'[t]? = st[t]?) (h:TipO b st sz T xs c):TipO b st' sz T xs c:=by
 rcases h with (h | ⟨t,h1,h2,h3⟩)|h
 ·exact .inl (.inl h)
 ·exact .inl (.inr ⟨t,h1,(hs t _ _ _ h2).trans h2,h3⟩)
 ·exact .inr h
end Go.Av
namespace Go.Proofs.YtneejjefekdgjaaGreatDoor
open Go Go.Av Go.RowKit Go.Proofs Go.Pl
theorem qfg {st l:List AObj}:st.length≤(st++l).length:=by simp
theorem q0f {b o:Nat} {st:List AObj} {sz:Nat} {T:TypeId} {xs:List AV} {c:AV} {x:AObj} (h:TipO b st sz T xs c) (hn:qfz st[o]?):TipO b (st.set o x) sz T xs c:=
 q4z (fun t m sz T ht=>List.getElem?_set_ne (fun e=>by subst e;exact hn _ _ _ ht)) h
structure OutI (st:List AObj) (S:List AObj):Prop where
 low:∀ j,j<st.length→S[j]? = st[j]?
 len:st.length≤S.length
theorem OutI.pre {st S l:List AObj} (h:OutI st S):OutI st (S++l):=⟨fun j hj=>(List.getElem?_append_left (by have:=h.len;omega)).trans (h.low j hj),by have:=h.len;simp;omega⟩
theorem OutI.set {st S:List AObj} {o:Nat} {x:AObj} (h:OutI st S) (ho:st.length≤o):OutI st (S.set o x):=⟨fun j hj=>(qkk (by omega)).trans (h.low j hj),by have:=h.len;simp;omega⟩
theorem OutI.fr {st S S':List AObj} {t:Nat} (h:OutI st S) (hf:Fr S S' t) (ht:st.length≤t):OutI st S':=⟨fun j hj=>(hf.same j (by omega) (by have:=h.len;omega)).trans (h.low j hj),Nat.le_trans h.len hf.len⟩
theorem OutI.ext {st S:List AObj} (h:OutI st S):∃ ext,S=st++ext:=qn4 h.low
theorem qc9 {E:Env} {rd:Option Nat} {N:Nat} {ops:Array Oper} {K:AS→Prop} {s:AS} {rest:List Oper} {d:Option Tmp} {T:TypeId} {p:String} {af:Array Edge} {t e:TypeId} {len sz:Nat} {agg:Bool} {parts:Array (Nat×Operand)} {zs cs:List AV} {st:List AObj} (hst:s.st=st) (hu:E.P.underlying t=some (.slice e)) (ht:tyOf E.P e=some (sz,agg)) (hz:qd1 E.P e len=some zs)
  (hf:qbo (fun i=>some (i * sz,sz)) zs (ww N s parts)=some cs) (hsz:Nat.ble (len * sz) 16777216=true)
  (h:AOps E rd N ops rest K (AS.put ⟨s.t,st++[.cells 0 e cs],s.df⟩ d (.os st.length 0 0 len len))):AOps E rd N ops (⟨d,.buildSlice t len parts,T,p,af,none⟩::rest) K s:=
 qbj (loc:=[]) (by rw [hst];simp) hu ht hz hf hsz h
end Go.Proofs.YtneejjefekdgjaaGreatDoor
namespace Go.Pl
open Go Go.Proofs Go.Proofs.YtneejjefekdgjaaGreatDoor
def GF (fs:List Fld):Prop:=fs.length≤40∧∀ f∈fs,vb f
structure PI (p:PSt):Prop where
 items:∀ x∈p.items,GF x.fields∧(x.kind=3↔x.fields≠[])
 fields:GF p.fields
 full:p.lines≠[]→p.full=false→p.fields.length<40
theorem qus {ls:List qd} (h:(jm ls).2=0):vb (jm ls).1:=by
 unfold jm at h ⊢
 split at h
 ·split at h
  ·simp at h
  ·rename_i h1 h2
   rw [if_pos h1,if_neg h2]
   exact⟨(qi9.1 h1.2.1).2.2,Nat.le_of_not_lt h2⟩
 ·simp at h
theorem PI.flush {p:PSt} (h:PI p):PI (jy p).2:=by
 unfold jy
 split
 ·exact h
 ·rename_i hl
  split
  ·exact h
  ·rename_i hu
   split
   ·exact h
   ·rename_i hf
    have hlt:=h.full hl (by simpa using hf)
    refine⟨h.items,⟨by simp;omega,fun f hm=>?_⟩,by simp⟩
    rcases List.mem_append.1 hm with hm|hm
    ·exact h.fields.2 f hm
    ·simp at hm;subst hm;exact qus (by simpa using hu)
theorem PI.close {p:PSt} (h:PI p):PI (y5 p):=by
 unfold y5
 split
 ·exact⟨h.items,⟨by simp,by simp⟩,fun h1 h2=>by simp⟩
 ·refine⟨fun x hx=>?_,⟨by simp,by simp⟩,fun h1 h2=>by simp⟩
  rcases List.mem_append.1 hx with hx|hx
  ·exact h.items x hx
  ·simp at hx
   subst hx
   refine⟨h.fields,?_⟩
   simp only
   split
   ·rename_i h0;simp [h0]
   ·rename_i h0;simp [h0]
theorem PI.end' {p:PSt} (h:PI p):PI (endP p).2:=by
 unfold endP
 split
 ·exact h
 ·exact h.flush.close
theorem PI.lines' {p:PSt} (h:PI p) (hl:p.lines≠[]) (text:qd):PI { p with lines:=p.lines++[text] }:=⟨h.items,h.fields,fun _ hf=>h.full hl hf⟩
theorem PI.begin' {p:PSt} (h:PI p) (no:Int) (text:qd):PI (vf p no text):=by
 refine⟨h.items,h.fields,fun _ hf=>?_⟩
 have:=h.fields.1
 simp only [vf,decide_eq_false_iff_not,not_or] at hf ⊢
 omega
theorem PI.ahead {p:PSt} (h:PI p) (no:Int) (text:qd) (ended:Bool) (kind:Int):PI (jv p no text ended kind).2:=by
 unfold jv
 split
 ·split
  ·exact h
  ·rename_i hl
   split
   ·exact h.lines' hl text
   ·exact (h.lines' hl text).flush
 ·split
  ·exact h.end'
  ·exact h.flush
theorem PI.take {p:PSt} (h:PI p) (no:Int) (text:qd) (ended:Bool):PI (xo p no text ended).2:=by
 have ha:=h.ahead no text ended (qq text)
 unfold xo
 split
 ·exact h
 ·split
  ·exact h
  ·split
   ·refine⟨fun x hx=>?_,ha.fields,ha.full⟩
    rcases List.mem_append.1 hx with hx|hx
    ·exact ha.items x hx
    ·simp at hx;subst hx;exact⟨⟨by simp,by simp⟩,by simp⟩
   ·split
    ·have hb:=ha.begin' no text
     exact⟨hb.items,hb.fields,hb.full⟩
    ·exact⟨ha.items,ha.fields,ha.full⟩
theorem PI.run:∀ (ls:List (qd×Bool)) (k:Nat) (p:PSt),PI p→PI (runL k ls p).2
 | [],k,p,h=>h.end'
 |(t,e)::r,k,p,h=>by
  unfold runL
  split
  ·exact h
  ·exact PI.run r (k+1) _ (h.take k t e)
theorem qrc (p:PSt):(y5 p).items.length≤p.items.length+1:=by
 unfold y5
 split <;> simp
theorem qfs (p:PSt):(jy p).2.items=p.items:=by
 unfold jy
 split
 ·rfl
 ·split
  ·rfl
  ·split <;> rfl
theorem qmk (p:PSt):(endP p).2.items.length≤p.items.length+1:=by
 unfold endP
 split
 ·simp
 ·have:=qrc (jy p).2
  rw [qfs] at this
  exact this
theorem qqp (p:PSt) (no:Int) (text:qd) (ended:Bool) (kind:Int):(jv p no text ended kind).2.items.length≤p.items.length+1:=by
 unfold jv
 split
 ·split
  ·simp
  ·split
   ·simp
   ·rw [qfs];simp
 ·split
  ·exact qmk p
  ·rw [qfs];simp
theorem quq (p:PSt) (no:Int) (text:qd) (ended:Bool):(xo p no text ended).2.items.length≤p.items.length+2:=by
 have ha:=qqp p no text ended (qq text)
 unfold xo
 split
 ·simp
 ·split
  ·simp
  ·split
   ·simp;omega
   ·split
    ·simp [vf];omega
    ·simp;omega
theorem qh9:∀ (ls:List (qd×Bool)) (k:Nat) (p:PSt),(runL k ls p).2.items.length≤p.items.length+2 * ls.length+1
 | [],k,p=>by have:=qmk p;simp [runL];omega
 |(t,e)::r,k,p=>by
  unfold runL
  split
  ·simp;omega
  ·have h1:=qh9 r (k+1) (xo p k t e).2
   have h2:=quq p k t e
   simp only [List.length_cons]
   omega
end Go.Pl
namespace Go.Proofs.YtneejjefekdgjaaGreatDoor
open Go Go.Av Go.RowKit Go.Proofs Go.Pl
theorem qpo {α : Type} [DecidableEq α] {a b:List α} {k:Nat} {d : α} (hl:a.length=b.length) (hk:k<a.length) (h:a.take k=b.take k) (h2:a.getD k d=b.getD k d):a.take (k+1)=b.take (k+1):=by
 rw [List.take_succ_eq_append_getElem hk,List.take_succ_eq_append_getElem (by omega),h]
 congr 2
 simpa [List.getD,hk,show k<b.length by omega] using h2
end Go.Proofs.YtneejjefekdgjaaGreatDoor
namespace Go.Pl
open Go Go.Proofs Go.Proofs.YtneejjefekdgjaaGreatDoor
theorem qd0 (s:qd) (r:List qd):z6 (s::r)=s++10::z6 r:=by simp [z6]
theorem qdu:∀ (ls:List qd),(∀ s∈ls,10∉s)→kf (z6 ls)=ls.map fun s=>(s,true)
 | [],_=>by simp [z6,qap]
 |s::r,h=>by
  have hs:=h s (by simp)
  rw [qd0,qbe (by simp),qea _ hs,qh3 _ hs,qdu r fun x hx=>h x (by simp [hx])]
  simp
theorem qub {f:Fld} (h:vb f):∀ s∈jx f,10∉s:=fun s hs=>by
 unfold jx at hs
 rcases List.mem_cons.1 hs with rfl|hs
 ·have h1:=qdx f.2 _ (qk9 f.2)
  have h2:=h.1.2.2.2.2.2
  unfold wm
  split <;> simp_all
 ·obtain⟨x,hx,rfl⟩:=List.mem_map.1 hs
  have h1:=qdx f.2 x (List.mem_of_mem_tail hx)
  have:=qnq h1
  simp [this]
theorem qjc {f:Fld} (h:vb f):∃ hd mr,jx f=hd::mr∧qq hd=4∧∀ s∈mr,qq s=3:=by
 refine⟨_,_,rfl,qo9 h.1 (qdx f.2 _ (qk9 f.2)),fun s hs=>?_⟩
 obtain⟨x,hx,rfl⟩:=List.mem_map.1 hs
 exact qpa x (qdx f.2 x (List.mem_of_mem_tail hx))
theorem q0b {p:PSt} {k:Int} {t:qd} (ht:qq t=3) (hl:p.lines≠[]):xo p k t true=(none,{ p with lines:=p.lines++[t],block:=p.block++[t] }):=by
 have ha:jv p k t true (qq t)=(none,{ p with lines:=p.lines++[t] }):=by
  unfold jv
  rw [if_pos ht,if_neg hl,if_pos rfl]
 unfold xo
 rw [ha,ht]
 simp
theorem qpn {p q:PSt} {k:Int} {t:qd} (ht:qq t=4) (hf:jy p=(none,q)):xo p k t true=(none,{ vf q k t with block:=q.block++[t] }):=by
 have ha:jv p k t true (qq t)=(none,q):=by
  unfold jv
  rw [if_neg (by omega),if_neg (by omega)]
  exact hf
 unfold xo
 rw [ha,ht]
 simp
theorem qlm:∀ (m:List qd) (k:Nat) (p:PSt) (ls:List (qd×Bool)),(∀ s∈m,qq s=3)→p.lines≠[] →
  runL k (m.map (fun s=>(s,true))++ls) p=runL (k+m.length) ls { p with lines:=p.lines++m,block:=p.block++m }
 | [],k,p,ls,_,_=>by simp
 |s::m,k,p,ls,h,hl=>by
  have hs:=h s (by simp)
  rw [List.map_cons,List.cons_append,runL,q0b hs hl]
  simp only
  rw [qlm m (k+1) _ ls (fun x hx=>h x (by simp [hx])) (by simp)]
  simp only [List.append_assoc,List.cons_append,List.nil_append,List.length_cons]
  congr 1
  omega
theorem qmq {g:Fld} (hg:vb g) (frm:Int) (its:List ja) (blk:List qd) (done:List Fld) (rc:Int):jy ⟨jx g,frm,false,its,blk,done,rc⟩=(none,⟨[],frm,false,its,blk,done++[g],rc⟩):=by
 have hu:=qp3 hg
 unfold jy
 rw [if_neg (by simp [jx]),hu]
 simp
theorem qs0:∀ (r:List Fld) (done:List Fld) (g:Fld) (k:Nat) (frm:Int) (blk:List qd),vb g→(∀ f∈r,vb f)→done.length+1+r.length≤40→blk≠[] →
  (runL k ((r.flatMap jx).map fun s=>(s,true)) ⟨jx g,frm,false,[],blk,done,0⟩).1=none∧(runL k ((r.flatMap jx).map fun s=>(s,true)) ⟨jx g,frm,false,[],blk,done,0⟩).2.items=[⟨3,z6 (blk++r.flatMap jx),done++g::r⟩]
 | [],done,g,k,frm,blk,hg,_,_,hb=>by
  have he:endP ⟨jx g,frm,false,[],blk,done,0⟩=(none,y5 ⟨[],frm,false,[],blk,done++[g],0⟩):=by
   unfold endP
   rw [qmq hg]
  simp only [List.flatMap_nil,List.map_nil,runL,he,List.append_nil]
  refine⟨trivial,?_⟩
  unfold y5
  rw [if_neg hb]
  simp
 |f::r,done,g,k,frm,blk,hg,hr,hl,hb=>by
  have hf:=hr f (by simp)
  obtain⟨hd,mr,hlf,hk4,hk3⟩:=qjc hf
  simp only [List.length_cons] at hl
  have hrun:runL k (((f::r).flatMap jx).map fun s=>(s,true)) ⟨jx g,frm,false,[],blk,done,0⟩=runL (k+1+mr.length) ((r.flatMap jx).map fun s=>(s,true)) ⟨jx f,k,false,[],blk++jx f,done++[g],0⟩:=by
   rw [List.flatMap_cons,List.map_append,hlf,List.map_cons,List.cons_append,runL,qpn hk4 (qmq hg frm [] blk done 0)]
   simp only
   rw [qlm mr (k+1) _ _ hk3 (by simp [vf])]
   have hfu:decide ((done++[g]).length=40∨((done++[g]).length=0∧(0:Int)=400))=false:=by
    simp
    omega
   simp only [vf,hfu,List.append_assoc,List.cons_append,List.nil_append]
  rw [hrun]
  have ih:=qs0 r (done++[g]) f (k+1+mr.length) k (blk++jx f) hf (fun x hx=>hr x (by simp [hx])) (by simp;omega) (by simp [hb])
  rw [ih.1,ih.2]
  simp [List.flatMap_cons]
theorem qhs (fs:List Fld):wx fs=z6 (fs.flatMap jx):=by
 induction fs with
 |nil=>rfl
 |cons f r ih=>
  rw [List.flatMap_cons,qck,← ih]
  simp [wx]
theorem qi3 {fs:List Fld} (h:∀ f∈fs,vb f):∀ s∈fs.flatMap jx,10∉s:=fun s hs=>by
 obtain⟨f,hf,hs⟩:=List.mem_flatMap.1 hs
 exact qub (h f hf) s hs
theorem qxb {fs:List Fld} (hg:GF fs) (hne:fs≠[]):yg (wx fs)=(none,[⟨3,wx fs,fs⟩]):=by
 have hl:=qdu _ (qi3 hg.2)
 rw [← qhs] at hl
 cases fs with
 |nil=>exact absurd rfl hne
 |cons f r=>
  have hf:=hg.2 f (by simp)
  obtain⟨hd,mr,hlf,hk4,hk3⟩:=qjc hf
  have hlen:=hg.1
  simp only [List.length_cons] at hlen
  have hrun:runL 0 (((f::r).flatMap jx).map fun s=>(s,true)) p0=runL (0+1+mr.length) ((r.flatMap jx).map fun s=>(s,true)) ⟨jx f,(0:Nat),false,[],jx f,[],0⟩:=by
   have hfl:jy p0=(none,p0):=rfl
   rw [List.flatMap_cons,List.map_append,hlf,List.map_cons,List.cons_append,runL,qpn hk4 hfl]
   simp only
   rw [qlm mr (0+1) _ _ hk3 (by simp [vf])]
   simp [vf,p0]
  have ih:=qs0 r [] f (0+1+mr.length) (0:Nat) (jx f) hf (fun x hx=>hg.2 x (by simp [hx])) (by simp;omega) (by simp [jx])
  unfold yg
  rw [hl,hrun,ih.1]
  simp only
  rw [ih.2]
  rw [qhs,List.flatMap_cons,List.nil_append]
theorem qt5 {ls:List qd} (h:∀ s∈ls,10∉s):qn6 [32,32] (z6 ls)=z6 (ls.map fun s=>[32,32]++s):=by
 unfold qn6 indF
 rw [qdu ls h]
 simp only [z6,List.flatMap_map,qn8,if_pos]
theorem q1m {ls:List qd} (h:∀ s∈ls,10∉s):∀ s∈ls.map (fun s=>[32,32]++s),10∉s:=fun s hs=>by
 obtain⟨x,hx,rfl⟩:=List.mem_map.1 hs
 have:=h x hx
 simp [this]
def qjw (x:za):List qd:=(x.fields.flatMap jx).map fun s=>[32,32]++s
theorem qko (v:Int):∀ c∈Lib.itoa v,c≠10∧c≠32:=fun c hc=>by
 by_cases hv:v<0
 ·rw [qhv hv] at hc
  rcases List.mem_cons.1 hc with rfl|hc
  ·decide
  ·have:=x6 _ _ (Nat.le_refl _) c hc
   constructor <;> rintro rfl <;> simp at this
 ·rw [qhw (by omega)] at hc
  have:=x6 _ _ (Nat.le_refl _) c hc
  constructor <;> rintro rfl <;> simp at this
theorem qzb (x:za):10∉qgk x:=by
 unfold qgk
 split
 ·rename_i hk
  have h1:=qko x.id
  intro hc
  rcases List.mem_append.1 hc with hc|hc
  ·have:x.kind=1∨x.kind=2∨x.kind=3:=by omega
   rcases this with h|h|h <;> rw [h] at hc <;> revert hc <;> decide
  ·exact (h1 10 hc).1 rfl
 ·simp
theorem qt0 {x:za} (hg:∀ f∈x.fields,vb f):qmj x=z6 (qgk x::qjw x):=by
 unfold qmj qjw
 rw [qd0,qhs,qt5 (qi3 hg)]
 simp
theorem qyi {x:za} (hg:∀ f∈x.fields,vb f):∀ s∈qjw x,10∉s:=q1m (qi3 hg)
theorem qyh {x:za} (hg:∀ f∈x.fields,vb f):∀ s∈qjw x,10∉s∧[32,32] <+: s:=fun s hs=>⟨qyi hg s hs,by
 obtain⟨y,_,rfl⟩:=List.mem_map.1 hs
 exact List.prefix_append _ _⟩
structure EncG (x:za):Prop where
 kind:x.kind=1∨x.kind=2∨x.kind=3
 len:x.fields.length≤40
 good:∀ f∈x.fields,vb f
 id1 : -9223372036854775808≤x.id
 id2:x.id≤9223372036854775807
theorem q3q {x:za} (h:gErr x = .no) (hB:EdB x):EncG x:=by
 obtain⟨h1,h2⟩:=qu3 h
 refine⟨?_,h1,h2,hB.id1,hB.id2⟩
 unfold gErr at h
 split at h
 ·exact .inr (.inl (by assumption))
 ·split at h
  ·rename_i hk;omega
  ·simp at h
def SpL (L:List qd):Prop:=L≠[]∧∀ s∈L,10∉s∧[32] <+: s
def encL (b:List za):List qd:=b.flatMap fun x=>qgk x::qjw x
theorem qyr {b:List za} (hg:∀ x∈b,EncG x):encF b=z6 (encL b):=by
 induction b with
 |nil=>rfl
 |cons x r ih=>
  have e:encL (x::r)=(qgk x::qjw x)++encL r:=by simp [encL]
  have e2:encF (x::r)=qmj x++encF r:=by simp [encF]
  rw [e,qck,e2,qt0 (hg x (by simp)).good,ih fun y hy=>hg y (by simp [hy])]
theorem q36 {x:za} (hk:x.kind=1∨x.kind=2∨x.kind=3):[32] <+: qgk x:=by
 unfold qgk
 rw [if_pos (by omega)]
 rcases hk with h|h|h <;> rw [h] <;> exact⟨_,rfl⟩
theorem q3r {b:List za} (hne:b≠[]) (hg:∀ x∈b,EncG x):SpL (encL b):=by
 refine⟨?_,fun s hs=>?_⟩
 ·cases b with
  |nil=>exact absurd rfl hne
  |cons x r=>simp [encL]
 ·obtain⟨x,hx,hs⟩:=List.mem_flatMap.1 hs
  have hG:=hg x hx
  rcases List.mem_cons.1 hs with rfl|hs
  ·exact⟨qzb x,q36 hG.kind⟩
  ·obtain⟨h1,t,ht⟩:=qyh hG.good s hs
   exact⟨h1,[32]++t,by rw [← ht];rfl⟩
theorem q4v {L:List qd} (h:SpL L):sp true (z6 L)=true:=by
 rw [← qhx _ (z6 L) (Nat.le_refl _),qdu L fun s hs=>(h.2 s hs).1]
 intro x hx
 obtain⟨s,hs,rfl⟩:=List.mem_map.1 hx
 exact (h.2 s hs).2
theorem q0d {L:List qd} (h:SpL L):(z6 L)[0]? = some 32:=by
 obtain⟨hne,hs⟩:=h
 cases L with
 |nil=>exact absurd rfl hne
 |cons s r=>
  obtain⟨t,ht⟩:=(hs s (by simp)).2
  rw [qd0,← ht]
  rfl
theorem qpp:∀ (L:List qd),L≠[]→(z6 L).getLast? = some 10
 | [],h=>absurd rfl h
 | [s],_=>by rw [qd0];simp [z6]
 |s::t::r,_=>by
  have ih:=qpp (t::r) (by simp)
  have hne:z6 (t::r)≠[]:=fun e=>by rw [e] at ih;simp at ih
  rw [qd0,List.getLast?_append,List.getLast?_cons,ih]
  simp
theorem qys {b:List za} (he:eErr b = .no) (hB:∀ x∈b,EdB x) (hl:(encF b).length≤50000):qeh (encF b):=by
 obtain⟨h1,h40,hg⟩:=qn2 he
 have hG:∀ y∈b,EncG y:=fun y hy=>q3q (hg y hy) (hB y hy)
 have hne:b≠[]:=fun e=>by subst e;simp at h1
 have hS:=q3r hne hG
 have ht:=qyr hG
 have hh:=q0d hS
 have hlast:=qpp _ hS.1
 rw [← ht] at hh hlast
 have hsp:=q4v hS
 rw [← ht] at hsp
 refine⟨?_,hl,hlast,by rw [qge];exact hsp⟩
 rcases hc:encF b with _ | ⟨c,_ | ⟨d,r⟩⟩
 ·rw [hc] at hh;simp at hh
 ·rw [hc] at hh hlast
  simp at hh hlast
  rw [hh] at hlast
  simp at hlast
 ·simp
end Go.Pl
namespace Go.Proofs.YtneejjefekdgjaaGreatDoor
open Go Go.Av Go.RowKit Go.Proofs Go.Pl
def qxx (b:List za):Prop:=b.length≤51∧∀ x∈b,qhg x.fields
def ArgE (b:List za):Prop:=b.length<9223372036854775808∧∀ x∈b,x.fields.length<9223372036854775808∧-9223372036854775808≤x.id∧x.id≤9223372036854775807
theorem q35 {b:List za} (hA:ArgE b) (h:qxx b):∀ x∈b,EdB x:=fun x hx=>⟨fun f hf=>((h.2 x hx).val f hf).1,(hA.2 x hx).1,(hA.2 x hx).2.1,(hA.2 x hx).2.2⟩
def ArgX (x:za):Prop:=x.fields.length<9223372036854775808∧-9223372036854775808≤x.id∧x.id≤9223372036854775807
theorem q1y:Opn Tryz.prog 113 fun a=>∃ x:za,a=qbm x∧ArgX x:=by
 intro H enc W fuel cs x h
 obtain⟨a,⟨vs,rfl,hl,hv⟩,hr⟩:=qh0 (As:=[(some (.int .i64),IsI .i64),(some (.int .i64),IsI .i64),(some (.slice 111),fun a=>∃ xs:List FldV,a=vq xs∧xs.length≤maxLen)]) (by kernel_rfl) (by kernel_rfl) (by kernel_rfl) (by kernel_rfl)
  (List.forall_mem_cons.2 ⟨⟨fun _ h=>qnc h,qna _⟩,List.forall_mem_cons.2 ⟨⟨fun _ h=>qnc h,qna _⟩,List.forall_mem_cons.2 ⟨⟨fun _ h=>q1z h,q1x⟩,nofun⟩⟩⟩) H enc W fuel cs x h
 match vs,hl with
 | [v0,v1,v2],_=>
  obtain⟨n0,rfl,w0⟩:=hv 0 _ _ rfl rfl
  obtain⟨n1,rfl,w1⟩:=hv 1 _ _ rfl rfl
  obtain⟨xs,rfl,m⟩:=hv 2 _ _ rfl rfl
  exact⟨_,⟨⟨n0,n1,xs⟩,rfl,qze m,lit_i64 w1⟩,hr⟩
theorem qkv {α : Type} {g : α→AV} {P : α→Prop}:∀ {xs:List AV},(∀ x∈xs,∃ a,x=g a∧P a)→∃ ys:List α,xs=ys.map g∧∀ a∈ys,P a
 | [],_=>⟨[],rfl,by simp⟩
 |x::r,h=>by
  obtain⟨ys,hys,has⟩:=qkv (xs:=r) fun y hy=>h y (List.mem_cons_of_mem _ hy)
  obtain⟨a,rfl,ha⟩:=h x (by simp)
  subst hys
  refine⟨a::ys,rfl,fun b hb=>?_⟩
  rcases List.mem_cons.1 hb with rfl|hb
  ·exact ha
  ·exact has b hb
theorem qzr {t:TypeId} (hu:Tryz.prog.underlying t=some (.slice 113)):Opn Tryz.prog t fun a=>∃ xs:List za,a=qai xs∧ArgE xs:=by
 intro H enc W fuel cs x h
 obtain⟨a,⟨xs,rfl,hl,hx⟩,hr⟩:=qnd (sz:=3) hu (by kernel_rfl) (by decide) q1y H enc W fuel cs x h
 obtain⟨rs,rfl,hrs⟩:=qkv hx
 exact⟨_,⟨rs,rfl,qze (by simpa using hl),hrs⟩,hr⟩
end Go.Proofs.YtneejjefekdgjaaGreatDoor
namespace Go.Pl
open Go Go.Proofs Go.Proofs.YtneejjefekdgjaaGreatDoor
def OutG (out:List za) (m:Nat):Prop:=∀ x∈out,(∀ f∈x.fields,vb f)∧x.fields.length≤m∧-9223372036854775808≤x.id∧x.id≤9223372036854775807
theorem OutG.mono {out:List za} {m m':Nat} (h:OutG out m) (hm:m≤m'):OutG out m':=fun x hx=>⟨(h x hx).1,by have:=(h x hx).2.1;omega,(h x hx).2.2⟩
end Go.Pl
namespace Go.Pl
open Go Go.Proofs
def vv:List (qd×Bool)→List qd
 | []=>[]
 |(t,_)::r=>if qq t=3 then t::vv r else []
def vo (prev:Bool) (t:qd) (e:Bool) (r:List (qd×Bool)) (fields:Nat) (records:Int):Int:=
 if qq t=5∨(qq t=3∧prev=false)∨e=false then 2
 else if qq t≠4 then 0
 else if (jm (t::vv r)).2≠0 then (jm (t::vv r)).2
 else if 40≤fields∨(fields=0∧400≤records) then 11 else 0
theorem qtz {α : Type} {l:List α} {x : α} (h:l.getLast? = some x):l.dropLast++[x]=l:=by
 have hne:l≠[]:=fun e=>by subst e;simp at h
 rw [List.getLast?_eq_some_getLast hne] at h
 obtain rfl:=Option.some.inj h
 exact List.dropLast_concat_getLast hne
def outR (now:ja) (out:List ja):List ja:=if now.raw=[] then out else out++[now]
def refL:Nat→List (qd×Bool)→Bool→ja→Int→List ja→Option (Int×Int)×List ja
 | _,[],_,now,_,out=>(none,outR now out)
 |i,(t,e)::r,prev,now,rec,out=>
  if vo prev t e r now.fields.length rec≠0 then (some ((i:Int),vo prev t e r now.fields.length rec),[])
  else if qq t=1 then refL (i+1) r false ⟨2,[],[]⟩ rec (outR now out++[⟨1,t++[10],[]⟩])
  else if qq t=4 then refL (i+1) r true ⟨3,now.raw++t++[10],now.fields++[(jm (t::vv r)).1]⟩ (if now.kind=2 then rec+1 else rec) out
  else refL (i+1) r (decide (qq t=3)) ⟨now.kind,now.raw++t++[10],now.fields⟩ rec out
def qqb:List (qd×Bool)→Prop
 | []=>True
 |(_,e)::r=>(e=false→r=[])∧qqb r
theorem qkp:∀ (n:Nat) (l:qd),l.length≤n→qqb (kf l)
 | 0,l,h=>by
  have:l=[]:=List.length_eq_zero_iff.1 (by omega)
  subst this
  rw [qap]
  trivial
 |n+1,l,h=>by
  by_cases hl:l=[]
  ·subst hl
   rw [qap]
   trivial
  ·rw [qbe hl]
   refine⟨fun he=>?_,qkp n _ (by have:=qcq (c:=10) hl;omega)⟩
   have h10:10∉l:=by simpa using he
   have:past 10 l=[]:=by
    unfold past
    rw [qf7 h10]
    exact List.drop_eq_nil_of_le (by omega)
   rw [this,qap]
def qcz (ls:List qd) (full:Bool):Int:=if (jm ls).2≠0 then (jm ls).2 else if full=true then 11 else 0
theorem qe5 {p:PSt} (h:p.lines≠[]) (hc:qcz p.lines p.full≠0):(jy p).1=some (p.frm,qcz p.lines p.full):=by
 unfold qcz at *
 unfold jy
 rw [if_neg h]
 by_cases h1:(jm p.lines).2≠0
 ·rw [if_pos h1,if_pos h1]
 ·rw [if_neg h1] at hc ⊢
  rw [if_neg h1]
  by_cases h2:p.full=true
  ·rw [if_pos h2,if_pos h2]
  ·rw [if_neg h2] at hc
   exact absurd rfl hc
theorem qo5 {p:PSt} (h:p.lines=[]∨qcz p.lines p.full=0):jy p=(none,{ p with lines:=[],fields:=p.fields++(if p.lines=[] then [] else [(jm p.lines).1]) }):=by
 unfold jy
 by_cases h0:p.lines=[]
 ·rw [if_pos h0,if_pos h0]
  obtain⟨a,b,c,d,e,f,g⟩:=p
  simp only at h0
  subst h0
  simp
 ·rw [if_neg h0,if_neg h0]
  have h:=h.resolve_left h0
  unfold qcz at h
  by_cases h1:(jm p.lines).2≠0
  ·rw [if_pos h1] at h
   exact absurd h h1
  ·rw [if_neg h1] at h ⊢
   by_cases h2:p.full=true
   ·rw [if_pos h2] at h
    simp at h
   ·rw [if_neg h2]
theorem qlo {p:PSt} {no:Int} {t:qd} {e:Bool} {x:Int×Int} (h:(jv p no t e (qq t)).1=some x):(xo p no t e).1=some x:=by
 unfold xo
 rw [h]
theorem qlp {p q:PSt} {no:Int} {t:qd} {e:Bool} (h:jv p no t e (qq t)=(none,q)) (hc:qq t=5∨e=false):(xo p no t e).1=some (no,2):=by
 unfold xo
 rw [h]
 simp only
 rw [if_pos hc]
theorem qhf {p q:PSt} {no:Int} {t:qd} (h:jv p no t true (qq t)=(none,q)) (hc:qq t≠5):xo p no t true =
  if qq t=1 then (none,{ q with items:=q.items++[⟨1,t++[10],[]⟩] }) else if qq t=4 then (none,{ vf q no t with block:=q.block++[t] }) else (none,{ q with block:=q.block++[t] }):=by
 unfold xo
 rw [h]
 simp only
 rw [if_neg (by simp [hc])]
theorem qdm {k:Nat} {t:qd} {e:Bool} {r:List (qd×Bool)} {p:PSt} {x:Int×Int} (h:(xo p k t e).1=some x):(runL k ((t,e)::r) p).1=some x:=by
 rw [runL,h]
theorem qes {k:Nat} {t:qd} {e:Bool} {r:List (qd×Bool)} {p q:PSt} (h:xo p k t e=(none,q)):runL k ((t,e)::r) p=runL (k+1) r q:=by
 rw [runL,h]
theorem qlz {p:PSt} {no:Int} {t:qd} (hk:qq t=3) (hl:p.lines≠[]):jv p no t true (qq t)=(none,{ p with lines:=p.lines++[t] }):=by
 unfold jv
 rw [if_pos hk,if_neg hl,if_pos rfl]
theorem qly {p:PSt} {no:Int} {t:qd} (hk:qq t=3) (hl:p.lines≠[]):jv p no t false (qq t)=jy { p with lines:=p.lines++[t] }:=by
 unfold jv
 rw [if_pos hk,if_neg hl,if_neg (by simp)]
theorem qef {p:PSt} {no:Int} {t:qd} {e:Bool} (hk:qq t≠3) (h1:qq t≠1):jv p no t e (qq t)=jy p:=by
 unfold jv
 rw [if_neg hk,if_neg h1]
theorem qgp {p:PSt} {no:Int} {t:qd} {e:Bool} (h1:qq t=1):jv p no t e (qq t)=endP p:=by
 unfold jv
 rw [if_neg (by omega),if_pos h1]
theorem qm2 {t:qd} {e:Bool} {r:List (qd×Bool)} (h:qq t≠3):vv ((t,e)::r)=[]:=by
 rw [vv,if_neg h]
theorem qgu {t:qd} {e:Bool} {r:List (qd×Bool)} (h:qq t=3):vv ((t,e)::r)=t::vv r:=by
 rw [vv,if_pos h]
theorem qrf {p:PSt} {x:Int×Int} (h:(jy p).1=some x):(endP p).1=some x:=by
 unfold endP
 rw [h]
theorem qn3 {p q:PSt} (h:jy p=(none,q)):endP p=(none,y5 q):=by
 unfold endP
 rw [h]
theorem qst:∀ (r:List (qd×Bool)) (p:PSt) (k:Nat) (c:Int),qqb r→p.lines≠[]→qcz (p.lines++vv r) p.full=c→c≠0→(runL k r p).1=some (p.frm,c)
 | [],p,k,c,_,hl,hc,h0=>by
  rw [vv,List.append_nil] at hc
  rw [runL]
  subst hc
  exact qrf (qe5 hl h0)
 |(t,e)::r,p,k,c,hE,hl,hc,h0=>by
  by_cases h3:qq t=3
  ·rw [qgu h3] at hc
   cases e with
   |true=>
    have ht:=qhf (qlz (no:=k) h3 hl) (by omega)
    rw [if_neg (by omega),if_neg (by omega)] at ht
    rw [qes ht]
    exact qst r _ (k+1) c hE.2 (by simp) (by simpa using hc) h0
   |false=>
    have hr:=hE.1 rfl
    subst hr
    refine qdm (qlo ?_)
    rw [qly h3 hl]
    have hc':qcz (p.lines++[t]) p.full=c:=hc
    have:=qe5 (p:={ p with lines:=p.lines++[t] }) (by simp) (by simp only;rw [hc'];exact h0)
    simp only at this
    rw [this,hc']
  ·rw [qm2 h3,List.append_nil] at hc
   subst hc
   refine qdm (qlo ?_)
   by_cases h1:qq t=1
   ·rw [qgp h1]
    exact qrf (qe5 hl h0)
   ·rw [qef h3 h1]
    exact qe5 hl h0
structure Sim (r:List (qd×Bool)) (p:PSt) (prev:Bool) (now:ja) (rec:Int) (out:List ja):Prop where
 hprev:prev=decide (p.lines≠[])
 hok:p.lines=[]∨qcz (p.lines++vv r) p.full=0
 hraw:now.raw=z6 p.block
 hfields:now.fields=p.fields++(if p.lines=[] then [] else [(jm (p.lines++vv r)).1])
 hkind:now.kind=if now.fields=[] then 2 else 3
 hrec:rec=p.records+if now.fields=[] then 0 else 1
 hout:out=p.items
 hempty:p.block=[]→p.lines=[]∧p.fields=[]
 b1:now.fields.length≤40
 b2:rec≤400
theorem q0c (b:List qd):z6 b=[]↔b=[]:=by
 cases b with
 |nil=>simp [z6]
 |cons x r=>simp [z6]
theorem qig (b:List qd) (t:qd):z6 (b++[t])=z6 b++t++[10]:=by simp [z6]
theorem Sim.flush {r:List (qd×Bool)} {p:PSt} {prev:Bool} {now:ja} {rec:Int} {out:List ja} (h:Sim r p prev now rec out) (hm:vv r=[]):jy p=(none,{ p with lines:=[],fields:=now.fields }):=by
 have h1:=h.hok
 have h2:=h.hfields
 rw [hm,List.append_nil] at h1 h2
 rw [qo5 h1,h2]
theorem Sim.close {r:List (qd×Bool)} {p:PSt} {prev:Bool} {now:ja} {rec:Int} {out:List ja} (h:Sim r p prev now rec out) (hm:vv r=[]):y5 { p with lines:=[],fields:=now.fields }={ p with lines:=[],fields:=[],block:=[],items:=outR now out,records:=rec }:=by
 have hk:=h.hkind
 have hr:=h.hrec
 have hw:=h.hraw
 have ho:=h.hout
 unfold y5 outR
 simp only
 by_cases hb:p.block=[]
 ·obtain⟨e1,e2⟩:=h.hempty hb
  have hf:now.fields=[]:=by rw [h.hfields,e1,e2];simp
  rw [if_pos hb,if_pos (by rw [hw,hb];rfl),ho,hr,hf]
  simp
 ·have hne:¬ now.raw=[]:=by rw [hw,q0c];exact hb
  rw [if_neg hb,if_neg hne,ho,hr,← hw]
  obtain⟨nk,nr,nf⟩:=now
  simp only at hk hne ⊢
  by_cases hf:nf=[]
  ·rw [if_pos hf] at hk
   simp [hf,hk,hne]
  ·rw [if_neg hf] at hk
   simp [hf,hk,hne]
theorem qhb:∀ (r:List (qd×Bool)) (k:Nat) (p:PSt) (prev:Bool) (now:ja) (rec:Int) (out:List ja),qqb r→Sim r p prev now rec out →
  refL k r prev now rec out=match (runL k r p).1 with
   |some e=>(some e,[])
   |none=>(none,(runL k r p).2.items)
 | [],k,p,prev,now,rec,out,_,h=>by
  rw [runL,qn3 (h.flush rfl),h.close rfl,refL]
 |(t,e)::r,k,p,prev,now,rec,out,hE,h=>by
  rw [refL]
  by_cases h3:qq t=3
  ·by_cases hl:p.lines=[]
   ·have hp:prev=false:=by rw [h.hprev];simp [hl]
    have hw:vo prev t e r now.fields.length rec=2:=by
     unfold vo
     rw [if_pos (.inr (.inl ⟨h3,hp⟩))]
    rw [hw,if_pos (by decide),qdm (x:=((k:Int),2)) (qlo (by unfold jv;rw [if_pos h3,if_pos hl]))]
   ·cases e with
    |true=>
     have hp:prev=true:=by rw [h.hprev];simp [hl]
     have hw:vo prev t true r now.fields.length rec=0:=by
      unfold vo
      rw [if_neg (by simp [hp];omega),if_pos (by omega)]
     have ht:=qhf (qlz (no:=k) h3 hl) (by omega)
     rw [if_neg (by omega),if_neg (by omega)] at ht
     rw [hw,if_neg (by simp),if_neg (by omega),if_neg (by omega),qes ht]
     have hm:=qgu (e:=true) (r:=r) h3
     have hok:=h.hok.resolve_left hl
     have hfs:=h.hfields
     rw [if_neg hl,hm] at hfs
     rw [hm] at hok
     refine qhb r (k+1) _ _ _ _ _ hE.2 ⟨by simp [h3],.inr (by simpa using hok),by rw [qig,← h.hraw],by simp [hfs],h.hkind,h.hrec,h.hout,by simp,h.b1,h.b2⟩
    |false=>
     have hr:=hE.1 rfl
     subst hr
     have hw:vo prev t false [] now.fields.length rec=2:=by
      unfold vo
      rw [if_pos (.inr (.inr rfl))]
     have hok:=h.hok.resolve_left hl
     rw [qgu h3] at hok
     have hf:=qo5 (p:={ p with lines:=p.lines++[t] }) (.inr hok)
     rw [hw,if_pos (by decide),qdm (x:=((k:Int),2)) (qlp ((qly h3 hl).trans hf) (.inr rfl))]
  ·have hm:=qm2 (e:=e) (r:=r) h3
   have hf:=h.flush hm
   have hc:=h.close hm
   by_cases hbad:qq t=5∨e=false
   ·have hw:vo prev t e r now.fields.length rec=2:=by
     unfold vo
     rw [if_pos (by rcases hbad with h|h;exact .inl h;exact .inr (.inr h))]
    rw [hw,if_pos (by decide)]
    by_cases h1:qq t=1
    ·rw [qdm (x:=((k:Int),2)) (qlp ((qgp h1).trans (qn3 hf)) hbad)]
    ·rw [qdm (x:=((k:Int),2)) (qlp ((qef h3 h1).trans hf) hbad)]
   ·have he:e=true:=by
     cases e with
     |true=>rfl
     |false=>exact absurd (.inr rfl) hbad
    have h5:qq t≠5:=fun h=>hbad (.inl h)
    subst he
    by_cases h1:qq t=1
    ·have hw:vo prev t true r now.fields.length rec=0:=by
      unfold vo
      rw [if_neg (by simp [h3,h5]),if_pos (by omega)]
     have ht:=qhf ((qgp (no:=k) h1).trans (qn3 hf)) h5
     rw [if_pos h1,hc] at ht
     rw [hw,if_neg (by simp),if_pos h1,qes ht]
     exact qhb r (k+1) _ _ _ _ _ hE.2 ⟨by simp,.inl rfl,rfl,by simp,by simp,by simp,rfl,by simp,by simp,h.b2⟩
    ·by_cases h4:qq t=4
     ·have ht:=qhf ((qef (no:=k) h3 h1).trans hf) h5
      rw [if_neg h1,if_pos h4] at ht
      rw [qes ht]
      have hb1:=h.b1
      have hb2:=h.b2
      have hrec:=h.hrec
      have hfull:(40≤now.fields.length∨(now.fields.length=0∧400≤rec))↔(now.fields.length=40∨(now.fields.length=0∧p.records=400)):=by
       by_cases hz:now.fields=[]
       ·rw [if_pos hz] at hrec
        simp only [hz,List.length_nil]
        constructor
        ·rintro (h'|h')
         ·exact absurd h' (by decide)
         ·exact .inr ⟨trivial,by omega⟩
        ·rintro (h'|h')
         ·exact absurd h' (by decide)
         ·exact .inr ⟨trivial,by omega⟩
       ·have:now.fields.length≠0:=fun h=>hz (List.length_eq_zero_iff.1 h)
        constructor
        ·rintro (h'|h')
         ·exact .inl (by omega)
         ·exact absurd h'.1 this
        ·rintro (h'|h')
         ·exact .inl (by omega)
         ·exact absurd h'.1 this
      have hw:vo prev t true r now.fields.length rec=qcz (t::vv r) (decide (now.fields.length=40∨(now.fields.length=0∧p.records=400))):=by
       unfold vo qcz
       rw [if_neg (by simp [h3,h5]),if_neg (by omega)]
       by_cases hu:(jm (t::vv r)).2≠0
       ·rw [if_pos hu,if_pos hu]
       ·rw [if_neg hu,if_neg hu]
        by_cases hx:40≤now.fields.length∨(now.fields.length=0∧400≤rec)
        ·rw [if_pos hx,if_pos (decide_eq_true (hfull.1 hx))]
        ·rw [if_neg hx,if_neg (by simpa using fun h=>hx (hfull.2 h))]
      by_cases hw0:vo prev t true r now.fields.length rec=0
      ·rw [if_neg (by simp [hw0]),if_neg h1,if_pos h4]
       have hx:¬ (40≤now.fields.length∨(now.fields.length=0∧400≤rec)):=fun hx=>by
        unfold vo at hw0
        rw [if_neg (by simp [h3,h5]),if_neg (by omega)] at hw0
        by_cases hu:(jm (t::vv r)).2≠0
        ·rw [if_pos hu] at hw0;exact hu hw0
        ·rw [if_neg hu,if_pos hx] at hw0;simp at hw0
       rw [hw] at hw0
       refine qhb r (k+1) _ _ _ _ _ hE.2 ⟨by simp [vf],.inr hw0,by simp only [vf];rw [qig,← h.hraw],by simp [vf],by simp,?_,h.hout,by simp [vf],by simp;omega,?_⟩
       ·have hkd:=h.hkind
        simp only [vf]
        by_cases hz:now.fields=[]
        ·rw [if_pos hz] at hrec hkd
         rw [hkd]
         simp
         omega
        ·rw [if_neg hz] at hrec hkd
         rw [hkd]
         simp
         omega
       ·rw [h.hkind]
        by_cases hz:now.fields=[]
        ·have:now.fields.length=0:=by rw [hz];rfl
         rw [if_pos hz,if_pos rfl]
         omega
        ·rw [if_neg hz,if_neg (by decide)]
         exact hb2
      ·rw [if_pos hw0]
       have:=qst r { vf { p with lines:=[],fields:=now.fields } k t with block:=p.block++[t] } (k+1) (vo prev t true r now.fields.length rec) hE.2 (by simp [vf]) hw.symm hw0
       simp only [vf] at this ⊢
       rw [this]
     ·have hw:vo prev t true r now.fields.length rec=0:=by
       unfold vo
       rw [if_neg (by simp [h3,h5]),if_pos h4]
      have ht:=qhf ((qef (no:=k) h3 h1).trans hf) h5
      rw [if_neg h1,if_neg h4] at ht
      rw [hw,if_neg (by simp),if_neg h1,if_neg h4,qes ht]
      exact qhb r (k+1) _ _ _ _ _ hE.2 ⟨by simp [h3],.inl rfl,by rw [qig,← h.hraw],by simp,h.hkind,h.hrec,h.hout,by simp,h.b1,h.b2⟩
theorem qgw (text:qd):refL 0 (kf text) false ⟨2,[],[]⟩ 0 []=yg text:=by
 unfold yg
 exact qhb (kf text) 0 p0 false ⟨2,[],[]⟩ 0 [] (qkp _ text (Nat.le_refl _)) ⟨by simp [p0],.inl rfl,rfl,by simp [p0],by simp,by simp [p0],rfl,by simp [p0],by simp,by omega⟩
end Go.Pl
namespace Go.Pl
open Go Go.Proofs Go.Proofs.YtneejjefekdgjaaGreatDoor
def genL:qd:=[35,37,103,101,110,32]
def qb5 (n:Int):qd:=genL++Lib.itoa n++[10,10]
def qds (n:Int):Prop:=1≤n∧n≤2147483648
instance (n:Int):Decidable (qds n):=inferInstanceAs (Decidable (_∧_))
def qb8 (text:qd):Int×qd:=
 if genL <+: text then
  match numZ (upto 10 (text.drop 6)) with
  |some n=>if qds n∧[10,10] <+: text.drop (6+(upto 10 (text.drop 6)).length) then (n,text.drop (8+(upto 10 (text.drop 6)).length)) else (0,text)
  |none=>(0,text)
 else (0,text)
theorem qmx (v:Int):(10:UInt8)∉Lib.itoa v:=by
 intro h
 by_cases hv:v<0
 ·rw [qhv hv] at h
  rcases List.mem_cons.1 h with h|h
  ·simp at h
  ·have:=x6 _ _ (Nat.le_refl _) _ h
   simp at this
 ·rw [qhw (by omega)] at h
  have:=x6 _ _ (Nat.le_refl _) _ h
  simp at this
theorem qr5 (n:Int) (r:qd):qb5 n++r=genL++(Lib.itoa n++10::10::r):=by simp [qb5]
theorem qie {n:Int} (h:qds n) (r:qd):qb8 (qb5 n++r)=(n,r):=by
 unfold qb8
 have hd:(genL++(Lib.itoa n++10::10::r)).drop 6=Lib.itoa n++10::10::r:=by rw [show (6:Nat)=genL.length by rfl,List.drop_left]
 rw [qr5,if_pos (List.prefix_append _ _),hd,qea _ (qmx n),qzg (by have:=h.1;omega) (by have:=h.2;omega)]
 have e1:(genL++(Lib.itoa n++10::10::r)).drop (6+(Lib.itoa n).length)=10::10::r:=by rw [← List.drop_drop,hd,List.drop_left]
 have e2:(genL++(Lib.itoa n++10::10::r)).drop (8+(Lib.itoa n).length)=r:=by
  rw [show 8+(Lib.itoa n).length=(6+(Lib.itoa n).length)+2 by omega,← List.drop_drop,e1]
  rfl
 simp only
 rw [e1,e2,if_pos ⟨h,r,rfl⟩]
theorem qpm {text:qd} (h:∀ n r,qds n→text≠qb5 n++r):qb8 text=(0,text):=by
 unfold qb8
 split
 ·rename_i hp
  obtain⟨t,rfl⟩:=hp
  have hd:(genL++t).drop 6=t:=by rw [show (6:Nat)=genL.length by rfl,List.drop_left]
  rw [hd]
  split
  ·rename_i n hn
   split
   ·rename_i hc
    obtain⟨hg,r,hr⟩:=hc
    rw [← List.drop_drop,hd] at hr
    obtain⟨he,_⟩:=qzh hn
    refine absurd ?_ (h n r hg)
    rw [qr5,← he]
    congr 1
    conv=>lhs;rw [← List.take_append_drop (upto 10 t).length t,qgn,← hr]
    rfl
   ·rfl
  ·rfl
 ·rfl
theorem qun (text:qd):(∃ n r,qds n∧text=qb5 n++r∧qb8 text=(n,r))∨((∀ n r,qds n→text≠qb5 n++r)∧qb8 text=(0,text)):=by
 by_cases h:∃ n r,qds n∧text=qb5 n++r
 ·obtain⟨n,r,hg,rfl⟩:=h
  exact .inl ⟨n,r,hg,rfl,qie hg r⟩
 ·have h':∀ n r,qds n→text≠qb5 n++r:=fun n r hg e=>h ⟨n,r,hg,e⟩
  exact .inr ⟨h',qpm h'⟩
def qbp (n:Int):qd:=if qds n then qb5 n else []
theorem qup (text:qd):text=qbp (qb8 text).1++(qb8 text).2∧((qb8 text).1=0∨qds (qb8 text).1):=by
 rcases qun text with⟨n,r,hg,he,ht⟩ | ⟨_,ht⟩
 ·rw [ht]
  simp only
  unfold qbp
  rw [if_pos hg]
  exact⟨he,.inr hg⟩
 ·rw [ht]
  exact⟨rfl,.inl rfl⟩
def begF (l:qd):Bool:=decide (l.head? = some 37∧qq l=5)
theorem qfa:∀ (r:List (qd×Bool)) (k:Nat) (prev:Bool) (now:ja) (rec:Int) (out:List ja),(refL k r prev now rec out).1=none→∀ x∈r,qq x.1≠5∧x.2=true
 | [],_,_,_,_,_,_=>by simp
 |(t,e)::r,k,prev,now,rec,out,h=>by
  rw [refL] at h
  split at h
  ·simp at h
  ·rename_i hw
   have hx:qq t≠5∧e=true:=by
    unfold vo at hw
    split at hw
    ·simp at hw
    ·rename_i hc
     exact⟨fun h5=>hc (.inl h5),by cases e with|true=>rfl|false=>exact absurd (.inr (.inr rfl)) hc⟩
   have hr:∀ x∈r,qq x.1≠5∧x.2=true:=by
    split at h
    ·exact qfa r _ _ _ _ _ h
    ·split at h
     ·exact qfa r _ _ _ _ _ h
     ·exact qfa r _ _ _ _ _ h
   intro x hx'
   rcases List.mem_cons.1 hx' with rfl|hx'
   ·exact hx
   ·exact hr x hx'
theorem qui {text:qd} (h:(yg text).1=none):∀ x∈kf text,begF x.1=false∧x.2=true:=fun x hx=>by
 rw [← qgw] at h
 obtain⟨h1,h2⟩:=qfa _ _ _ _ _ _ h x hx
 exact⟨by simp [begF,h1],h2⟩
theorem qgd {n:Nat} {fig l:qd} (hf:qbc fig) (h:l <+: qah n fig) (hne:l≠[]):begF l=true:=by
 have h10:10∉l:=qod h (qdt n hf)
 have h58:(58:UInt8)∉l:=qod h fun h'=>by
  unfold qah at h'
  rcases List.mem_append.1 h' with h'|h'
  ·revert h';decide
  ·rcases List.mem_append.1 h' with h'|h'
   ·exact qm7 n (by decide) h'
   ·rcases List.mem_cons.1 h' with h'|h'
    ·simp at h'
    ·exact qi6 hf (by decide) h'
 obtain⟨c,q,rfl⟩:=List.exists_cons_of_ne_nil hne
 have hc:c=37:=by
  obtain⟨t,ht⟩:=h
  unfold qah xz at ht
  exact (List.cons.inj ht).1
 subst hc
 have hk:=qt8 h10 (fun hb=>by
  have:=hb 37 (by simp)
  revert this
  decide)
 simp only [begF,List.head?_cons,true_and,decide_eq_true_eq]
 rw [hk.2]
 rw [if_neg (by simp),if_neg (by simp [yt]),if_neg (fun h=>h58 h.1)]
theorem qyg {n:Nat} {fig body l:qd} (hf:qbc fig) (h:l <+: recL n fig body) (hne:l≠[]):begF (upto 10 l)=true:=by
 rcases qph (show l <+: qah n fig++10::(body++qfd n) from h) with h | ⟨r,rfl,hr⟩
 ·rw [qf7 (qod h (qdt n hf))]
  exact qgd hf h hne
 ·cases r with
  |nil=>
   rw [List.append_nil,qf7 (qdt n hf)]
   exact qgd hf (List.prefix_refl _) (by simp [qah,xz])
  |cons c r=>
   have:c=10:=by obtain⟨t,ht⟩:=hr;exact (List.cons.inj ht).1
   subst this
   rw [qea _ (qdt n hf)]
   exact qgd hf (List.prefix_refl _) (by simp [qah,xz])
theorem q3f {b:qd} (x:qd) (hg:qeh b):begF (upto 10 (recF b++x))=true:=by
 rw [q4l]
 have hx:qbc (sumF b):=qt4 (addP 0 b)
 unfold recL
 rw [List.append_assoc,List.cons_append,qea _ (qdt _ hx)]
 exact qgd hx (List.prefix_refl _) (by simp [qah,xz])
structure qey where
 gen:Int
 base:qd
 batches:List (List za)
 ends : List Int
 tail:qd
def qbw (text:qd):ErrV:=if 60000<text.length then .num 1 else match (yg text).1 with
 |none=>.no
 |some (a,n)=>.at' a n
structure qju (b:List za):Prop where
 ok:eErr b = .no
 B:∀ x∈b,EdB x
 len:(encF b).length≤50000
theorem qju.good {b:List za} (h:qju b):qeh (encF b):=qys h.ok h.B h.len
def recE (b:List za):qd:=recF (encF b)
def qay (bs:List (List za)):qd:=bs.flatMap recE
def qc6 (a:Int):List (List za)→List Int
 | []=>[]
 |b::r=>(a+(recE b).length)::qc6 (a+(recE b).length) r
theorem qh7 (b:List za) (r:List (List za)):qay (b::r)=recE b++qay r:=rfl
theorem qxf (r:List (List za)) (b:List za):qay (r++[b])=qay r++recE b:=by simp [qay]
theorem qmm:∀ (r:List (List za)) (a:Int) (b:List za),qc6 a (r++[b])=qc6 a r++[a+(qay r).length+(recE b).length]
 | [],a,b=>by simp [qc6,qay]
 |x::r,a,b=>by
  rw [List.cons_append,qc6,qc6,qmm r,qh7]
  simp
  omega
theorem qml:∀ (r:List (List za)) (a:Int),r≠[]→(qc6 a r).getLast? = some (a+(qay r).length)
 | [],_,h=>absurd rfl h
 | [x],a,_=>by simp [qc6,qay]
 |x::y::r,a,_=>by
  have:=qml (y::r) (a+(recE x).length) (by simp)
  rw [qc6,List.getLast?_cons]
  rw [this,qh7 x]
  simp
  omega
structure qb2 (text:qd) (b:qey):Prop where
 txt:text=qbp b.gen++(b.base++(qay b.batches++b.tail))
 gen:qb8 text=(b.gen,b.base++(qay b.batches++b.tail))
 parse:qbw b.base = .no
 good:∀ x∈b.batches,qju x
 tail:(qdy b.tail).1=2
 ends : b.ends = qc6 ((qbp b.gen).length + b.base.length) b.batches
 len:text.length≤120000
def BegP (x:qd):Prop:=x=[]∨begF (upto 10 x)=true
theorem qyf {t:qd} (h:(qdy t).1=2):BegP t:=by
 by_cases h0:t=[]
 ·exact .inl h0
 ·obtain⟨n,fig,body,R,hp,_⟩:=q4g h
  obtain⟨_,_,_,_,_,hx⟩:=R
  exact .inr (qyg hx hp h0)
theorem qye {bs:List (List za)} {t:qd} (hg:∀ b∈bs,qju b) (h:(qdy t).1=2):BegP (qay bs++t):=by
 cases bs with
 |nil=>exact qyf h
 |cons b r=>
  refine .inr ?_
  rw [qh7,List.append_assoc]
  exact q3f _ (hg b (by simp)).good
theorem qyd {x:qd} (h:BegP x):x=[]∨x.head? = some 37:=by
 rcases h with h|h
 ·exact .inl h
 ·simp only [begF,decide_eq_true_eq] at h
  cases x with
  |nil=>exact .inl rfl
  |cons c r=>
   refine .inr ?_
   have h1:=h.1
   unfold upto at h1
   by_cases hc:c=10
   ·subst hc;simp at h1
   ·simpa [hc] using h1
theorem qsr {l:qd} (h:qbw l = .no):(∀ p∈kf l,begF p.1=false∧p.2=true)∧l.length≤60000:=by
 unfold qbw at h
 split at h
 ·simp at h
 ·split at h
  ·rename_i hp
   exact⟨qui hp,by omega⟩
  ·simp at h
def qcl (b:qey):qd:=qbp b.gen++(b.base++qay b.batches)
def qjq (b:qey):Int:=match b.ends.getLast? with
 |some e=>e
 |none=>((qbp b.gen).length+b.base.length:Nat)
theorem qb2.split {text:qd} {b:qey} (h:qb2 text b):text=qcl b++b.tail:=by
 have:=h.txt
 unfold qcl
 simpa using this
theorem qb2.whole {text:qd} {b:qey} (h:qb2 text b):qjq b=((qcl b).length:Int):=by
 unfold qjq
 rw [h.ends]
 by_cases h0:b.batches=[]
 ·rw [h0]
  simp [qc6,qcl,h0,qay]
 ·rw [qml _ _ h0]
  simp [qcl]
  omega
theorem qb2.take {text:qd} {b:qey} (h:qb2 text b):text.take (qjq b).toNat=qcl b:=by
 rw [h.whole,Int.toNat_natCast]
 conv=>lhs;rw [h.split]
 rw [List.take_left]
theorem qwv {l:qd} (h:l≠[]) (hp:∀ p∈kf l,p.2=true):l.getLast? = some 10:=by
 have:∀ (k:Nat) (l:qd),l.length≤k→l≠[]→(∀ p∈kf l,p.2=true)→l.getLast? = some 10:=by
  intro k
  induction k with
  |zero=>intro l hl h0;exact absurd (List.length_eq_zero_iff.1 (by omega)) h0
  |succ k ih=>
   intro l hl h0 hp
   rw [qbe h0] at hp
   have h10:10∈l:=by simpa using hp _ (List.mem_cons_self ..)
   have e:=qdo h10
   by_cases hq:past 10 l=[]
   ·rw [hq] at e
    rw [e]
    simp
   ·have:=ih (past 10 l) (by have:=qcq (c:=10) h0;omega) hq fun p hp'=>hp p (by simp [hp'])
    rw [e]
    rw [List.getLast?_append,List.getLast?_cons,this]
    simp
 exact this _ l (Nat.le_refl _) h hp
theorem q3w {l x:qd} {n:Int} (h:∀ p∈kf l,p.2=true) (hx:x=[]∨x.head? = some 37) (hp:qb5 n <+: l++x):qb5 n <+: l:=by
 rcases qph hp with h1 | ⟨r,h1,hr⟩
 ·exact h1
 ·by_cases hr0:r=[]
  ·rw [h1,hr0,List.append_nil]
   exact List.prefix_refl _
  ·exfalso
   obtain⟨c,q,rfl⟩:=List.exists_cons_of_ne_nil hr0
   have hc:c=37:=by
    obtain⟨t,ht⟩:=hr
    rcases hx with rfl|hx
    ·simp at ht
    ·rw [← ht] at hx
     simpa using hx
   subst hc
   by_cases hl:l=[]
   ·rw [hl] at h1
    simp [qb5,genL] at h1
   ·have hlast:=qwv hl h
    obtain⟨q0,hq0⟩:∃ q0,l=q0++[10]:=by
     have:=qtz hlast
     exact⟨_,this.symm⟩
    have e:genL++Lib.itoa n++10::[10]=q0++10::(37::q):=by
     have:=h1
     unfold qb5 at this
     rw [hq0] at this
     simpa using this
    have hu10:10∉genL++Lib.itoa n:=by
     intro h
     rcases List.mem_append.1 h with h|h
     ·revert h;decide
     ·exact qmx n h
    have hA:=qea (c:=10) [10] hu10
    have hB:=qh3 (c:=10) [10] hu10
    rw [e] at hA hB
    by_cases hq10:10∈q0
    ·have e2:=qdo hq10
     have e3:q0++10::(37::q)=upto 10 q0++10::(past 10 q0++10::(37::q)):=by
      conv=>lhs;rw [e2]
      simp
     rw [e3,qh3 _ (qm8 10 q0)] at hB
     have:=congrArg List.length hB
     simp at this
     omega
    ·rw [qh3 _ hq10] at hB
     simp at hB
theorem qxn {l x y:qd} (h:∀ p∈kf l,p.2=true) (hx:qb8 (l++x)=(0,l++x)) (hy:y=[]∨y.head? = some 37):qb8 (l++y)=(0,l++y):=by
 refine qpm fun n r hg e=>?_
 obtain⟨t,ht⟩:=q3w (n:=n) h hy ⟨r,e.symm⟩
 have:qb8 (l++x)=(n,t++x):=by rw [← ht,List.append_assoc,qie hg]
 rw [hx] at this
 have h0:(0:Int)=n:=(Prod.mk.inj this).1
 have:=hg.1
 omega
theorem qb2.gen0 {text:qd} {b:qey} (h:qb2 text b):b.gen=0∨qds b.gen:=by
 have:=(qup text).2
 rw [h.gen] at this
 exact this
theorem qb2.other {text:qd} {b:qey} (h:qb2 text b) {bs:List (List za)} {t:qd} (hg:∀ x∈bs,qju x) (ht:(qdy t).1=2) (hlen:(qbp b.gen++(b.base++(qay bs++t))).length≤120000) :
  qb2 (qbp b.gen++(b.base++(qay bs++t))) ⟨b.gen,b.base,bs,qc6 ((qbp b.gen).length+b.base.length) bs,t⟩:=by
 refine⟨rfl,?_,h.parse,hg,ht,rfl,hlen⟩
 rcases h.gen0 with h0|h0
 ·have hgen:=h.gen
  have htext:=h.txt
  have e:qbp b.gen=[]:=by unfold qbp;rw [if_neg (by rw [h0];decide)]
  rw [e,List.nil_append] at htext ⊢
  rw [h0,htext] at hgen
  simp only
  rw [h0]
  exact qxn (fun p hp=>((qsr h.parse).1 p hp).2) hgen (qyd (qye hg ht))
 ·have e:qbp b.gen=qb5 b.gen:=by unfold qbp;rw [if_pos h0]
  simp only
  rw [e,qie h0]
theorem q17:qdy []=(2,[],0):=by
 unfold qdy qf1
 rw [if_neg (by simp),if_pos]
 rw [if_neg (by decide)]
 decide
theorem qb2.more {text:qd} {b:qey} (h:qb2 text b) {x:List za} (hx:qju x) (hl:(qcl b++recE x).length≤120000):qb2 (qcl b++recE x) { b with batches:=b.batches++[x],ends:=b.ends++[qjq b+(recE x).length],tail:=[] }:=by
 have e:qbp b.gen++(b.base++(qay (b.batches++[x])++[]))=qcl b++recE x:=by simp [qcl,qxf]
 have:=h.other (bs:=b.batches++[x]) (t:=[]) (fun y hy=>by
  rcases List.mem_append.1 hy with hy|hy
  ·exact h.good y hy
  ·obtain rfl:=List.mem_singleton.1 hy
   exact hx) (by rw [q17]) (by rw [e];exact hl)
 rw [e,qmm,← h.ends] at this
 have hw:((qbp b.gen).length+b.base.length+(qay b.batches).length+(recE x).length:Int)=qjq b+(recE x).length:=by
  rw [h.whole]
  simp [qcl]
  omega
 rw [hw] at this
 exact this
end Go.Pl
