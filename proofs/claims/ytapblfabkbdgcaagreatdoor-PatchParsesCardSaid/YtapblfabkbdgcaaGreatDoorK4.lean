/- Contracts and plain facts that the closing text leans on (part 4). No condition of their own beyond those that each states. -/
import Derived.Test.YtapblfabkbdgcaaGreatDoorK3
import Derived.Lib.AppendZerosOnto
import Derived.Lib.Overlaps
set_option maxRecDepth 100000
set_option linter.unusedVariables false
set_option linter.unusedSimpArgs false
namespace Go.Proofs.YtapblfabkbdgcaaGreatDoor
open Go Go.Av Go.RowKit Go.Proofs Go.Pl
theorem q02 (f:FldV) (st:List AObj) (hl:f.1.length<4294967281):qo E 147 [fldA f] st fun r st'=>r=Iv (kj f)∧st'=st:=by
 refine ze (q8 _) (qr Tryz.func147 rfl (Nat.le_of_ble_eq_true rfl) ?_);repeat' (first|apply qm|apply qg|apply qh|apply qi|(apply qt;(iterate 3 exact rfl))|(apply kp;exact rfl)|(apply qe;exact rfl;apply cd_n <;> intro h)|(apply qe;exact rfl;apply cd_d <;> intro h)|(apply jy;(iterate 3 exact rfl))|(apply qbe;(iterate 4 exact rfl))|(apply zg;(iterate 3 exact rfl))|(apply jf;(iterate 5 exact rfl))|apply qw|apply q6|(apply qq;exact Tryz.call159;exact q08 _ _ hl))
 all_goals refine qn rfl (zh rfl) ⟨congrArg Iv (?_:_=kj f),_,rfl⟩
 ·exact (if_pos (by simp_all):kj f=5).symm
 ·exact ((if_neg (by simp_all)).trans (if_pos (by omega)):kj f=6).symm
 ·exact ((if_neg (by simp_all)).trans (if_neg (by omega)):kj f=0).symm
theorem zct {s:qc} (h:10∉s):qs s=1↔qbf s:=by
 unfold qs qbf;rw [if_neg h];by_cases hb:∀ c∈s,vv c
 ·rw [if_pos hb]
  exact⟨fun _=>hb,fun _=>rfl⟩
 ·rw [if_neg hb]
  refine⟨fun h=>?_,fun h=>absurd h hb⟩;exfalso;revert h;repeat' split
  all_goals decide
theorem zdb (l p:qc) (r:List qc) (st:List AObj) (hl:l.length<1000000) (h:qz l=p::r):qo E 149 [Sv l] st fun x st'=>x = .sl 1 (Sv p::r.map fun x=>Sv x) none∧st'=st:=by
 have:=q66 l st hl;rw [h] at this;exact this
theorem q2z {f:Fld} {p:qc} {r:List qc} (h:qz f.2=p::r):zk f=jw f.1 p::r.map fun s=>[32]++vl s:=by
 unfold zk;rw [h];rfl
theorem qpm (f:Fld):(zf (zk f)).length≤f.1.length+3 * f.2.length+3:=by
 have h1:=qqw (qz f.2).tail;have h2:=congrArg List.length (qhj _ f.2 (Nat.le_refl _))
 have h3:(jw f.1 ((qz f.2).headD [])).length≤f.1.length+2+((qz f.2).headD []).length:=by
  unfold jw;split <;> simp <;> omega
 have e:zk f=[jw f.1 ((qz f.2).headD [])]++(qz f.2).tail.map fun s=>[32]++vl s:=rfl;rw [e,yb,qgw];simp only [List.length_append,List.length_cons,List.length_nil] at h2 ⊢;omega
theorem qr6:∀ (xs:List Fld),(∀ f∈xs,f.1.length<4294967281∧f.2.length<1000000)→(z7 xs).length≤5000000000 * xs.length
 | [],_=>by simp [z7]
 |f::r,h=>by
  have ih:=qr6 r fun x hx=>h x (by simp [hx]);have h1:=qpm f;have h2:=h f (by simp);have e:z7 (f::r)=zf (zk f)++z7 r:=by simp [z7]
  rw [e,List.length_append,List.length_cons];omega
end Go.Proofs.YtapblfabkbdgcaaGreatDoor
namespace Go.Av
open Go Go.RowKit
@[reducible] def qsw (K : Act → World → Prop) : Exit → Act → World → Prop
 | .normal,a,w=>K a w
 | _,_,_=>False
structure AZ (E:Env) (N:Nat) (ops:Array Oper) (fuel:Nat) (listed:Array Bool) (K:AS→Prop) (s:AS):Prop where
 run:∀ (B0:Nat) (w0:World) (G:Gh) (a:Act) (w:World),E.L B0 w0→Inv B0 w0 N G s a w→∀ K':Act→World→Prop,(∀ G' s' a' w',G.le G'→Inv B0 w0 N G' s' a' w'→K s'→K' a' w')→wpAnyIn (fw none) 0 E.P .any ops (qsw K') fuel listed a w
structure AY (E:Env) (N:Nat) (o:Oper) (s:AS) (r:AV):Prop where
 run:∀ (B0:Nat) (w0:World) (G:Gh) (a:Act) (w:World),Inv B0 w0 N G s a w→∃ v,(∀ w',(execOp a.eval o).run E.P w' = .ok (.value v) w')∧(∀ w',o.about E.P w' a.eval=none)∧Rel G r v
section
variable {E : Env} {N : Nat} {ops : Array Oper} {K : AS → Prop} {s : AS} {fuel : Nat} {listed : Array Bool}
theorem qiy {id:Nat} {Q:Exit→AS→Prop} {n:Nat} (hm:E.P.follows .mixedOrders=true) (hn:ops.size=n) (h:AZ E N ops n (Array.replicate n false) (Q .normal) s):AWp E none N (.region id ops true) Q s:=by
 subst hn;refine⟨fun B0 w0 G a w hL hI=>?_⟩;have hBl:Below w.heap.size w { w with drawn:=w.drawn+1 }:=⟨rfl,rfl,rfl,Nat.le_refl _,fun _ _=>rfl⟩;have lz:Inv B0 w0 N G s a { w with drawn:=w.drawn+1 }:=⟨hI.agree.fresh hBl,hI.defers,hI.size,hI.tmps⟩;have:=h.run B0 w0 G a _ hL lz (fun a' w'=>∃ (G':Gh) (s':AS),G.le G'∧Inv B0 w0 N G' s' a' w'∧Q .normal s') fun G' s' a' w' hG m5 hk=>⟨G',s',hG,m5,hk⟩;refine wpIn_mono (wpIn_region_any hm this) fun e a' w' hq=>?_
 cases e with
 |normal=>exact hq
 | _=>exact hq.elim
theorem qce (hr:Region.ready .any ops listed=[]) (h:K s):AZ E N ops fuel listed K s:=
 ⟨fun B0 w0 G a w hL hI K' hK=>wpAnyIn_done hr (hK G s a w (.refl G) hI h) fuel⟩
theorem x5 (i:Nat) {oi:Oper} {r:AV} (hi:ops[i]? = some oi) (hs:Region.noSelect ops=true) (hf:Region.free .any ops listed i=true) (hr:(Region.ready .any ops listed).contains i=true) (hg:oi.guard=none) (hy:AY E N oi s r)
  (h:AZ E N ops fuel (listed.setIfInBounds i true) K (s.put oi.dst r)):AZ E N ops (fuel+1) listed K s:=by
 refine⟨fun B0 w0 G a w hL hI K' hK=>?_⟩;obtain⟨v,h1,h2,h3⟩:=hy.run B0 w0 G a w hI;have hwn:Region.wanted oi (yielded ops a.tmps)=true:=by simp [Region.wanted,hg]
 refine wpAnyIn_take (v:=v) rfl hi hs hf hr (fun c a w hq=>hq.elim) ⟨.inl ⟨hwn,h1⟩,h2⟩ (h.run B0 w0 G _ w hL (hI.put (.refl G) hI.agree oi.dst h3) K' fun G' s' a' w' hG m5 hk=>hK G' s' a' w' hG m5 hk)
theorem q22 {F:Fence} {n:Nat} {P:Program} {o:Oper} {a:Act} {w:World} {next X Y:Act→World→Prop} (h:o.wpIn F n P a w next (qsw X)):o.wpIn F n P a w next (qsw Y):=by
 unfold Oper.wpIn at *;refine⟨h.1,?_⟩;have h:=h.2;generalize (o.semAt F.round a.eval).run P w=r at *
 cases r with
 |ok x w'=>
  cases x <;> simp only [Oper.uponIn] at h ⊢
  case value u=>exact h
  case skip=>exact h
  case defer d=>exact h
  case enter f args=>
   refine⟨h.1,CallsIn.mono h.2 fun e w'' he=>?_⟩
   cases e with
   |returned u=>exact he
   |panicked c=>exact he.elim
   |outgrown=>exact absurd he (by simp [LetsOut])
  case row row args=>exact h
  case round l f tmps assign body=>
   refine⟨h.1,RoundIn.mono h.2 fun e w'' he=>?_⟩
   cases e with
   |returned u=>exact he
   |panicked c=>exact he.elim
   |outgrown=>exact absurd he (by simp [LetsOut])
 |halt x w'=>
  cases x <;> simp only [Oper.uponIn] at h ⊢
  case panic u=>exact h.elim
def qxl (P:Nat→Prop):List Nat→Prop
 | []=>True
 |i::r=>P i∧qxl P r
theorem qu0 {P:Nat→Prop}:∀ {l:List Nat},qxl P l→∀ i∈l,P i
 | [],_,_,h=>by simp at h
 |j::l,h,i,hi=>by
  rcases List.mem_cons.1 hi with rfl|hi
  ·exact h.1
  ·exact qu0 h.2 i hi
theorem wl (rs:List Nat) (hr:Region.ready .any ops listed=rs) (b8:Nat.blt 0 rs.length=true)
  (h:qxl (fun i=>∃ o,ops[i]? = some o∧AOps E none N ops [o] (AZ E N ops fuel (listed.setIfInBounds i true) K) s) rs):AZ E N ops (fuel+1) listed K s:=by
 refine⟨fun B0 w0 G a w hL hI K' hK=>wpAnyIn_all hr (fun e=>by subst e;simp at b8) fun i hi=>?_⟩;obtain⟨o,ho,h⟩:=qu0 h i hi;have a8:=h.run B0 w0 G a w hL hI (qsw fun a' w'=>wpAnyIn (fw none) 0 E.P .any ops (qsw K') fuel (listed.setIfInBounds i true) a' w') fun G' s' a' w' hG m5 hk=>hk.run B0 w0 G' a' w' hL m5 K' fun G2 s2 a2 w2 lj lz cx=>hK G2 s2 a2 w2 (hG.trans lj) lz cx;unfold wpOpIn;rw [ho];simp only [wpListIn] at a8 ⊢;split
 ·rename_i hw
  rw [if_pos hw] at a8;exact q22 a8
 ·rename_i hw
  rw [if_neg hw] at a8;exact a8
variable {d : Option Tmp} {T : TypeId} {p : String} {af : Array Edge}
theorem zeg {op:Op} {r:AV} (hnc:∀ c,op≠.call c) (h:∀ (G:Gh) (ρ : Operand→Value),(∀ x,Rel G (qj N s x) (ρ x))→∃ v,(∀ w',(execOp ρ ⟨d,op,T,p,af,none⟩).run E.P w' = .ok (.value v) w')∧Rel G r v):AY E N ⟨d,op,T,p,af,none⟩ s r:=
 ⟨fun B0 w0 G a w hI=>let ⟨v,h1,h2⟩:=h G a.eval hI.eval;⟨v,h1,fun w'=>by unfold Oper.about;cases op <;> first|rfl|exact absurd rfl (hnc _),h2⟩⟩
theorem yy {x:Operand}:AY E N ⟨d,.move x,T,p,af,none⟩ s (qj N s x):=zeg nofun fun G ρ hρ=>⟨ρ x,fun w'=>by simp [execOp],hρ x⟩
theorem qu8 {x:Operand}:AY E N ⟨d,.assign x,T,p,af,none⟩ s (qj N s x):=zeg nofun fun G ρ hρ=>⟨ρ x,fun w'=>by simp [execOp],hρ x⟩
end
theorem qtz {E:Env} {rd:Option Nat} {N:Nat} {c:Code} {Q:Exit→AS→Prop} {s:AS} (I:AS→Prop) (h:AWp E rd N c (only I) s) (hk:∀ s',I s'→Q .normal s'):AWp E rd N c Q s:=h.mono fun e s' h=>by
 cases e <;> first|exact hk _ h|exact h.elim
end Go.Av
namespace Go.Proofs.YtapblfabkbdgcaaGreatDoor
open Go Go.Av Go.RowKit Go.Proofs Go.Pl
theorem qje {l:qc}:qs l=4↔10∉l∧58∈l∧yr (zx l):=by
 unfold qs;by_cases f9:10∈l
 ·simp [f9]
 ·rw [if_neg f9]
  constructor
  ·intro h
   split at h
   ·simp at h
   ·split at h
    ·simp at h
    ·split at h
     ·simp at h
     ·split at h
      ·rename_i hk;exact⟨f9,hk.1,hk.2⟩
      ·simp at h
  ·rintro⟨_,h58,hk⟩
   obtain⟨c,hc,hb,h35⟩:=qjd hk
   have hh:l.head? = some c:=by
    cases l with
    |nil=>simp at h58
    |cons a r=>
     unfold zx at hc;rw [List.takeWhile_cons] at hc;split at hc
     ·simpa using hc
     ·simp at hc
   have mj:c∈l:=List.mem_of_head? hh;rw [if_neg (fun h'=>hb (h' c mj)),if_neg (by rw [hh];simpa using h35),if_neg (fun ⟨d,hd,t7⟩=>by rw [hh] at hd;cases hd;exact hb t7),if_pos ⟨h58,hk⟩]
theorem q6l (l:qc) (st:List AObj) (hl:l.length<4294967281) (h:qs l=4):qo E 194 [Sv l] st fun r st'=>r = .tu [Sv (zx l),Sv (kg l),Bv true]∧st'=st:=by
 refine ze (qnv _ _ _) (qr Tryz.func194 rfl (Nat.le_of_ble_eq_true rfl) ?_);have hc:Lib.cut l [58]=(zx l,kg l,true):=by rw [qvj,if_pos (qje.1 h).2.1]
 repeat' (first|apply qm|apply qg|apply qh|apply ql|apply qi|(apply zz;exact rfl;exact rfl)|(apply qt;(iterate 3 exact rfl))|(apply qe;exact rfl;apply wm;exact cAo)|apply qw|apply q6|(apply qq;exact Tryz.call121;exact qnf _ _ hl)|(apply qq;exact Tryz.call39;exact q55 _ _ _ hl))
 refine qn rfl (qg8 rfl) ⟨q1y (?_:_=_),_,rfl⟩;rw [hc]
theorem q2y (l:qc) (st:List AObj) (hl:l.length<4294967281) (h:qs l≠4):qo E 194 [Sv l] st fun r st'=>r = .tu [Sv [],Sv [],Bv false]∧st'=st:=by
 refine ze (qnv _ _ _) (qr Tryz.func194 rfl (Nat.le_of_ble_eq_true rfl) ?_);repeat' (first|apply qm|apply qg|apply qh|apply ql|apply qi|(apply qt;(iterate 3 exact rfl))|(apply qe;exact rfl;apply vj;exact cAo)|apply q6|(apply qq;exact Tryz.call121;exact qnf _ _ hl))
 exact qn rfl (qg8 rfl) ⟨rfl,_,rfl⟩
theorem zex {fn:Func} {s:AS} {t u:Tmp} {Ta:TypeId} {o1 v1 f1 sz1:Nat} {agg1:Bool} {T1:TypeId} {cs1:List AV} {r1:AV} (hr:fn.results = #[.cell t Ta,.tmp u]) (rk:qj fn.ntmps s (.tmp t) = .bx o1 v1 f1) (ho1:s.st[o1]? = some (.cells v1 T1 cs1)) (gm:tyOf E.P Ta=some (sz1,agg1)) (o7:js sz1 agg1 f1 cs1=some r1) :
  ARes E fn s (.tu [r1,qj fn.ntmps s (.tmp u)]):=by
 refine⟨fun B0 w0 G a w hL hI=>?_⟩;obtain⟨b,v,h1,h2,h3⟩:=qgb hI rk ho1 gm o7;have hu:=hI.rd u;refine⟨.tuple #[v,a.tmps.getD u undef],?_,qfv h3 hu⟩;simp only [Act.eval,Array.getD_eq_getD_getElem?] at h1;simp [results,hr,h1,asAddr,h2]
def qf0 (ls:List qc):AV:=.tu [fldA (zq ls).1,errN (zq ls).2]
theorem q1z (ls:List qc):Pure (qf0 ls):=qev fun x hx=>by
 simp only [List.mem_cons,List.not_mem_nil,or_false] at hx;rcases hx with rfl|rfl
 ·exact qoq fun x hx=>by
   simp only [List.mem_cons,List.not_mem_nil,or_false] at hx;rcases hx with rfl|rfl <;> exact q8 _
 ·exact qi8 _
theorem qo5 {fn:Func} {s:AS} {t u:Tmp} {Ta:TypeId} {st loc ext new:List AObj} {k1 v1 f1 sz1:Nat} {agg1:Bool} {T1:TypeId} {cs1:List AV} {r1:AV} (hr:fn.results = #[.cell t Ta,.tmp u]) (hs:s.st=((st++loc)++ext)++new) (rk:qj fn.ntmps s (.tmp t) = .bx (st.length+k1) v1 f1) (ho1:loc[k1]? = some (.cells v1 T1 cs1)) (gm:tyOf E.P Ta=some (sz1,agg1)) (o7:js sz1 agg1 f1 cs1=some r1) :
  ARes E fn s (.tu [r1,qj fn.ntmps s (.tmp u)]):=zex hr rk (by rw [hs];exact qad ho1) gm o7
structure LsB (ls:List qc):Prop where
 len:ls.length<1000000
 val:∀ s∈ls,s.length<1000000
theorem qqv:∀ (r:List qc),(∀ s∈r,s.length<1000000)→(r.flatMap fun s=>[10]++v6 46 (s.drop 1)).length≤1000001 * r.length
 | [],_=>by simp
 |a::r,h=>by
  have ih:=qqv r fun s hs=>h s (by simp [hs]);have ha:=h a (by simp);have ht:(v6 46 (a.drop 1)).length≤a.length:=by unfold v6;split <;> simp <;> omega
  simp only [List.flatMap_cons,List.length_append,List.length_cons,List.length_nil];omega
theorem q9j (v:qc) (r:List qc):Lib.join (v::r.map fun s=>v6 46 (s.drop 1)) [10]=v++r.flatMap fun s=>[10]++v6 46 (s.drop 1):=by
 rw [Lib.join_cons];unfold Lib.joinTail;rw [List.map_map,List.flatMap_def];rfl
theorem q4d (xs:List qc) (tip:Option Nat) (sep v:qc) (st:List AObj) (h:Lib.join xs sep=v) (hN:xs.length≤140737488355328) (hl:v.length≤140737488355328):qo E 105 [.sl 1 (xs.map fun x=>Sv x) tip,Sv sep] st fun r st'=>r=Sv v∧st'=st:=by
 subst h;exact q9i xs tip sep st hN hl
theorem zae (l:qc) (st:List AObj) (hl:l.length<4294967281) (h:qs l=4):qo E 115 [Sv l] st fun r st'=>r = .tu [Sv (zx l),Sv (kg l),Bv true]∧st'=st:=by
 have:=q05 l st hl;have e:qd0 l=(zx l,kg l,true):=if_pos (qje.1 h);rw [e] at this;exact this
theorem qkr {s:qc} (h:qs s=3):2≤s.length∧10∉s:=by
 have f9:10∉s:=fun h'=>by unfold qs at h;rw [if_pos h'] at h;simp at h
 refine⟨?_,f9⟩;unfold qs at h;rw [if_neg f9] at h;split at h
 ·simp at h
 ·rename_i hb
  split at h
  ·simp at h
  ·split at h
   ·rename_i gb
    obtain⟨c,hc,hcb⟩:=gb
    match s,hc with
    | [a],hc=>
     simp at hc;subst hc
     exact absurd (by simpa using hcb) hb
    |a::b::r,_=>simp
   ·split at h <;> simp at h
def qdk (ls:List qc):AV:=.tu [fldA (zq ls).1,Iv (zq ls).2]
theorem qs6 (ls:List qc):Pure (qdk ls):=qev fun x hx=>by
 simp only [List.mem_cons,List.not_mem_nil,or_false] at hx;rcases hx with rfl|rfl
 ·exact qoq fun x hx=>by
   simp only [List.mem_cons,List.not_mem_nil,or_false] at hx;rcases hx with rfl|rfl <;> exact q8 _
 ·exact q8 _
def accU (l:qc) (pre:List qc):qc:=v6 32 (kg l)++pre.flatMap fun s=>[10]++v6 46 (s.drop 1)
theorem q7t (l:qc) (pre:List qc) (a:qc):accU l (pre++[a])=(accU l pre++[10])++v6 46 (a.drop 1):=by
 unfold accU;rw [List.flatMap_append];simp
theorem zbk (l:qc) (pre:List qc) (h:∀ s∈pre,s.length<1000000):(accU l pre).length≤l.length+1000001 * pre.length:=by
 have pf:(v6 32 (kg l)).length≤l.length:=by unfold v6 kg;split <;> simp <;> omega
 have:=qqv pre h;unfold accU;rw [List.length_append];omega
theorem qx1 (c:UInt8):((c.toNat:Nat):Int)=46↔c=46:=u8i c 46 (by omega)
theorem qlm {α : Type} {P : α→Prop} {pre:List α} {a : α} (h:∀ x∈pre,P x) (ha:P a):∀ x∈pre++[a],P x:=fun x hx=>by
 rcases List.mem_append.1 hx with hx|hx
 ·exact h x hx
 ·simp at hx;subst hx;exact ha
end Go.Proofs.YtapblfabkbdgcaaGreatDoor
namespace Go.Pl
open Go Go.Proofs
structure LnV where
 no:Nat
 at':Nat
 text:qc
 ended : Bool
def ve (k a:Nat) (l:qc):List LnV:=if h:l=[] then [] else⟨k,a,upto 10 l,decide (10∈l)⟩::ve (k+1) (a+(upto 10 l).length+1) (past 10 l)
 termination_by l.length
 decreasing_by exact xi h
def lns (l:qc):List LnV:=ve 0 0 l
theorem qae (k a:Nat):ve k a []=[]:=by unfold ve;simp
theorem qaj {k a:Nat} {l:qc} (h:l≠[]):ve k a l=⟨k,a,upto 10 l,decide (10∈l)⟩::ve (k+1) (a+(upto 10 l).length+1) (past 10 l):=by
 conv=>lhs;unfold ve
 rw [dif_neg h]
def whole (l:qc):Prop:=l=[]∨l.getLast? = some 10
theorem q7l {l:qc} (h:whole l) (b8:l≠[]):10∈l∧whole (past 10 l):=by
 have hl:l.getLast? = some 10:=h.resolve_left b8;have f9:10∈l:=List.mem_of_getLast? hl;refine⟨f9,?_⟩;by_cases hp:past 10 l=[]
 ·exact .inl hp
 ·refine .inr ?_
  have e:=qab f9;rw [e] at hl;rw [List.getLast?_append,List.getLast?_cons] at hl
  cases hg:(past 10 l).getLast? with
  |none=>exact absurd (List.getLast?_eq_none_iff.1 hg) hp
  |some c=>rw [hg] at hl;simpa using hl
theorem quc:∀ (n:Nat) (d x:qc) (k a:Nat),d.length≤n→whole d→ve k a (d++x)=ve k a d++ve (k+(ve k a d).length) (a+d.length) x
 |n,d,x,k,a,hn,hw=>by
  by_cases hd:d=[]
  ·subst hd
   simp [qae]
  ·obtain⟨f9,l7⟩:=q7l hw hd
   have e:=qab f9;have d6:=xi (c:=10) hd
   cases n with
   |zero=>omega
   |succ n=>
    have e2:d++x=upto 10 d++10::(past 10 d++x):=(congrArg (· ++ x) e).trans (by simp);have hu:upto 10 (d++x)=upto 10 d:=by rw [e2];exact wj _ (qa9 10 d)
    have hp:past 10 (d++x)=past 10 d++x:=by rw [e2];exact xb _ (qa9 10 d)
    have hdl:d.length=(upto 10 d).length+1+(past 10 d).length:=by
     have:=congrArg List.length e;simp at this;omega
    rw [qaj (l:=d++x) (by simp [hd]),qaj hd,hu,hp,quc n (past 10 d) x _ _ (by omega) l7];have h1:10∈d++x:=by simp [f9]
    simp only [h1,f9,List.cons_append,List.length_cons];congr 2;have e3:∀ m:Nat,k+1+m=k+(m+1):=fun m=>by omega
    rw [e3];congr 1;omega
theorem zge {c:qc} (k a:Nat) (h:10∉c):ve k a (c++[10])=[⟨k,a,c,true⟩]:=by
 rw [qaj (by simp),wj [] h,xb [] h,qae];simp
theorem zcx {c:qc} (k a:Nat) (h:10∉c) (b8:c≠[]):ve k a c=[⟨k,a,c,false⟩]:=by
 rw [qaj b8,qcc h]
 have:past 10 c=[]:=by
  unfold past;rw [qcc h];simp
 rw [this,qae];simp [h]
theorem qet:∀ (n:Nat) (l:qc) (k a:Nat),l.length≤n→(ve k a l).length≤l.length
 |n,l,k,a,hn=>by
  by_cases h:l=[]
  ·subst h;simp [qae]
  ·have d6:=xi (c:=10) h
   cases n with
   |zero=>omega
   |succ n=>
    rw [qaj h,List.length_cons];have:=qet n (past 10 l) (k+1) (a+(upto 10 l).length+1) (by omega);omega
theorem qv9:∀ (n:Nat) (l:qc) (k a:Nat),l.length≤n→(ve k a l).map (fun x=>(x.text,x.ended))=zj l
 |n,l,k,a,hn=>by
  by_cases h:l=[]
  ·subst h;simp [qae,kv]
  ·have d6:=xi (c:=10) h
   cases n with
   |zero=>omega
   |succ n=>rw [qaj h,vw h,List.map_cons,qv9 n _ _ _ (by omega)]
end Go.Pl
namespace Go.Proofs.YtapblfabkbdgcaaGreatDoor
open Go Go.Av Go.RowKit Go.Proofs Go.Pl
@[reducible] def lnA (x : LnV) : AV := .ag [Iv x.no, Iv x.at', Sv x.text, Bv x.ended]
@[reducible] def lnsA (xs : List LnV) : AV := .sl 4 (xs.map lnA) none
theorem zdi (xs:List LnV):Pure (lnsA xs):=qch fun x hx=>by
 simp only [List.mem_map] at hx;obtain⟨f,_,rfl⟩:=hx;intro y hy;simp [AV.cells] at hy;rcases hy with rfl|rfl|rfl|rfl <;> exact q8 _
set_option maxHeartbeats 4000000 in
theorem qs5 (l:qc) (st:List AObj) (hl:l.length<100000000):qo E 76 [Sv l] st fun r st'=>r=lnsA (lns l)∧st'=st:=by
 refine ze (zdi _) (qr Tryz.func76 rfl (Nat.le_of_ble_eq_true rfl) ?_);repeat' (first|apply qm|apply qu|apply qg|apply qh|apply qi)
 refine q5p (i:=3) (sz:=4) (T':=146) rfl ?_;refine qa0 l (fun pre s=>∃ d c,pre=d++c∧whole d∧10∉c∧StE [(0,Sv l),(3,.sl 4 ((lns d).map lnA) (some (st.length+0))),(4,Iv d.length),(5,Iv pre.length)] st [.tip (lns d).length 4 146] s) ⟨[],[],rfl,.inl rfl,by simp,qci ⟨rfl,?_,rfl,rfl,trivial⟩ ?_⟩ ?_ ?_
 ·rw [show lns []=[] from qae 0 0];simp;rfl
 ·rw [show lns []=[] from qae 0 0];show (st++[])++[AObj.tip 0 4 _]=_;simp
 ·rintro _ ⟨d,c,nt,hw,hc,t,ext,rfl⟩
  have lw:l.length=d.length+c.length:=by rw [nt];simp
  have dw:=qet _ d 0 0 (Nat.le_refl _);have hcnt':(lns d).length≤d.length:=dw;have i6:((lns d).map lnA).length=(lns d).length:=by simp
  have sb:lns l=lns d++ve (lns d).length d.length c:=by
   unfold lns;rw [nt,quc _ d c 0 0 (Nat.le_refl _) hw];simp
  have hfrom:l.drop d.length=c:=by rw [nt];simp
  repeat' (first|apply qm|apply qg|apply qh|apply ql|apply qi|(apply qt;(iterate 3 exact rfl))|(apply qe;exact rfl;apply wm;exact cAo)|(apply qe;exact rfl;apply cd_d <;> intro h)|(apply jy;(iterate 3 exact rfl))|(apply ja;(iterate 4 exact rfl))|(apply qmt;(iterate 3 exact rfl);exact cAs)|(apply xk;(iterate 3 exact rfl))|(apply xc;(iterate 9 exact rfl))|apply qw|apply jg|apply q6|(apply qe3 (n:=(lns d).length) (m:=1) (sz:=4) (bytes:=40);(iterate 4 exact rfl);exact i6;exact rfl;exact rfl;exact⟨⟨_,_,rfl,rfl,rfl,rfl,rfl⟩⟩;exact rfl;exact rfl;(unfold maxLen;omega);omega;exact rfl))
  ·have b8:c≠[]:=fun e=>by subst e;simp at lw;omega
   have e:AV.sl 4 ((lns d).map lnA++[AV.ag [Iv ((lns d).map lnA).length,Iv d.length,Sv (l.drop d.length),Bv false]]) none=AV.sl 4 ((lns l).map lnA) none:=by
    rw [sb,zcx _ _ hc b8,i6,hfrom,List.map_append];rfl
   exact qn rfl (qrm rfl rfl) ⟨e,yl _ _ _ _⟩
  ·have hce:c=[]:=List.length_eq_zero_iff.1 (by omega)
   refine qn rfl (qrm rfl rfl) ⟨?_,yl _ _ _ _⟩;rw [sb,hce,qae,List.append_nil]
 ·rintro pre a rest _ hr ⟨d,c,nt,hw,hc,t,ext,rfl⟩
  have c8:l.length=pre.length+(rest.length+1):=by rw [hr];simp
  have t6:pre.length=d.length+c.length:=by rw [nt];simp
  have c9:l.getD pre.length 0=a:=by rw [hr];simp
  have dw:=qet _ d 0 0 (Nat.le_refl _);have hcnt':(lns d).length≤d.length:=dw;have i6:((lns d).map lnA).length=(lns d).length:=by simp
  have dn:(l.take pre.length).drop d.length=c:=by rw [hr,List.take_left' rfl,nt,List.drop_left' rfl]
  repeat' (first|apply qm|apply qu|apply qg|apply qh|apply ql|apply qi|(apply qt;(iterate 3 exact rfl))|(apply qe;exact rfl;apply vj;exact cAo)|(apply qe;exact rfl;apply cd_d <;> intro h)|(apply jy;(iterate 3 exact rfl))|(apply ja;(iterate 4 exact rfl))|(apply zn;exact rfl;exact rfl;exact zb (by omega) (by omega))|(apply xn;(iterate 3 exact rfl);exact cAs)|(apply qit;(iterate 4 exact rfl);exact cAs;exact cAs)|(apply xk;(iterate 3 exact rfl))|(apply xc;(iterate 9 exact rfl))|apply qw|(apply qe3 (n:=(lns d).length) (m:=1) (sz:=4) (bytes:=40);(iterate 4 exact rfl);exact i6;exact rfl;exact rfl;exact⟨⟨_,_,rfl,rfl,rfl,rfl,rfl⟩⟩;exact rfl;exact rfl;(unfold maxLen;omega);omega;exact rfl))
  ·have ha:a=10:=by have h:=(qfi _).1 (by assumption:((l.getD pre.length 0).toNat:Int)=10);rw [c9] at h;exact h
   have sb:lns (d++(c++[10]))=lns d++[⟨(lns d).length,d.length,c,true⟩]:=by
    unfold lns;rw [quc _ d (c++[10]) 0 0 (Nat.le_refl _) hw,zge _ _ hc];simp
   refine⟨d++(c++[10]),[],by rw [ha,nt];simp,.inr (by simp),by simp,y9 ⟨rfl,?_,?_,qft pre a,trivial⟩ ?_⟩
   ·have e:AV.sl 4 ((lns d).map lnA++[AV.ag [Iv ((lns d).map lnA).length,Iv d.length,Sv ((l.take pre.length).drop d.length),Bv true]]) (some (st.length+0))=AV.sl 4 ((lns (d++(c++[10]))).map lnA) (some (st.length+0)):=by
     rw [sb,i6,dn,List.map_append];rfl
    exact e
   ·have e:Iv ((pre.length:Int)+1)=Iv ((d++(c++[10])).length:Nat):=by
     have:(d++(c++[10])).length=pre.length+1:=by simp;omega
     rw [this];rfl
    exact e
   ·rw [sb,qcb];rfl
  ·have ha:a≠10:=fun e=>absurd (by rw [c9];exact (qfi _).2 e:((l.getD pre.length 0).toNat:Int)=10) (by assumption)
   exact⟨d,c++[a],by rw [nt];simp,hw,by simp [hc,Ne.symm ha],y9 ⟨rfl,rfl,rfl,qft pre a,trivial⟩ rfl⟩
end Go.Proofs.YtapblfabkbdgcaaGreatDoor
namespace Go.Pl
open Go Go.Proofs
def indF (by':qc) (ls:List (qc×Bool)):qc:=ls.flatMap fun x=>by'++x.1++wt x.2
def x6 (by' l:qc):qc:=indF by' (zj l)
theorem qle (by':qc) (a b:List (qc×Bool)):indF by' (a++b)=indF by' a++indF by' b:=by simp [indF]
theorem qlg (by':qc) (x:qc×Bool):indF by' [x]=by'++x.1++wt x.2:=by simp [indF]
def lsum (ls:List (qc×Bool)):Nat:=(ls.map fun x=>x.1.length+(wt x.2).length).sum
theorem qcx:∀ (n:Nat) (l:qc),l.length≤n→lsum (zj l)=l.length∧(zj l).length≤l.length
 |n,l,hn=>by
  by_cases h:l=[]
  ·subst h;simp [kv,lsum]
  ·have d6:=xi (c:=10) h
   cases n with
   |zero=>omega
   |succ n=>
    obtain⟨h1,h2⟩:=qcx n (past 10 l) (by omega);rw [vw h];unfold lsum at h1 ⊢;simp only [List.map_cons,List.sum_cons,List.length_cons];rw [h1];have hp:=vo 10 l;have hu:=vk 10 l;by_cases f9:10∈l
    ·have:=qdq f9
     simp [f9,wt];omega
    ·have hu2:(upto 10 l).length=l.length:=by rw [qcc f9]
     have db:=List.length_pos_iff.2 h;simp [f9,wt];omega
theorem qlf (by':qc):∀ (ls:List (qc×Bool)),(indF by' ls).length=lsum ls+by'.length * ls.length
 | []=>by simp [indF,lsum]
 |x::r=>by
  have ih:=qlf by' r;simp only [indF,lsum,List.flatMap_cons,List.length_append,List.map_cons,List.sum_cons,List.length_cons] at ih ⊢;rw [ih,Nat.mul_add];omega
theorem qz3 (a b:List (qc×Bool)):lsum (a++b)=lsum a+lsum b:=by simp [lsum]
end Go.Pl
namespace Go.Proofs.YtapblfabkbdgcaaGreatDoor
open Go Go.Av Go.RowKit Go.Proofs Go.Pl
theorem zax (text:List UInt8) (st loc:List AObj) (n:Nat) (hn:loc.length=n):qo E 82 [Sv text] (st++loc) fun r st1=>r = .fn (.func 120) [] [.bx (st.length+n) 0 0]∧st1=st++(loc++[.cells 0 9 [Sv text]]):=
 quq text (st++loc) _ (st.length+n) (by simp [hn]) (by rw [List.append_assoc])
theorem q9h (b sep:qc) (st:List AObj) (hl:b.length≤140737488355328):qo E 105 [.sl 1 [Sv b] none,Sv sep] st fun r st'=>r=Sv b∧st'=st:=
 q4d [b] none sep b st (by simp [Lib.join,List.intercalate]) (by simp) hl
theorem zio {st a b ext:List AObj} {m:Nat} (h:((st++a)++ext).length=m) (e:b.length=a.length):((st++b)++ext).length=m:=by
 simp only [List.length_append] at h ⊢;omega
set_option maxHeartbeats 2000000 in
theorem zcq (text by':qc) (st:List AObj) (hl:text.length<100000000) (hb:by'.length<1000):qo E 67 [Sv text,.sl 1 [Sv by'] none] st fun r st'=>r=Sv (x6 by' text)∧st'=st:=by
 refine ze (q8 _) (qr Tryz.func67 rfl (Nat.le_of_ble_eq_true rfl) ?_);obtain⟨hsum,dw⟩:=qcx _ text (Nat.le_refl _);repeat' (first|(apply qf3;exact rfl)|apply qm|apply qu|apply qg|apply qh|apply ql|apply qi|(apply jp;exact rfl;exact rfl)|(apply z4;(iterate 11 exact rfl))|(apply qq;exact Tryz.call105;exact q9h _ _ _ (by omega))|(refine qq Tryz.call82 (zax _ _ _ _ rfl) ?_))
 refine qt0 (st:=st) text rfl rfl (by omega) (fun k rest l=>∃ q don,(q = .v (.pointer none)∨q = .bx (st.length+0) 0 0)∧zj text=don++zj rest∧l=[bldO 0 q (indF by' don) (st.length+1),.tip (indF by' don).length 1 5,.cells 0 9 [Sv by'],.cells 0 9 [Sv text]]) (fun _ _=>False)
  ⟨_,[],.inl rfl,rfl,rfl⟩ (fun k rest l ⟨q,don,_,_,e⟩=>by subst e;exact⟨rfl,rfl⟩) (fun _ _ h=>h.elim) ?_ ?_ (fun _ _ _ h=>h.elim)
 ·rintro F own rd k rest _ ext m hF ⟨q,don,hq,hd,rfl⟩ b8 d5 hm1 tb
  have mj:zj rest=(upto 10 rest,decide (10∈rest))::zj (past 10 rest):=vw b8;have hu:=vk 10 rest;have c8:=qlf by' (don++[(upto 10 rest,decide (10∈rest))]);have he:zj text=(don++[(upto 10 rest,decide (10∈rest))])++zj (past 10 rest):=by rw [hd,mj];simp
  have hs2:lsum (don++[(upto 10 rest,decide (10∈rest))])+lsum (zj (past 10 rest))=text.length:=by rw [← qz3,← he];exact hsum
  have nc:(don++[(upto 10 rest,decide (10∈rest))]).length+(zj (past 10 rest)).length≤text.length:=by rw [← List.length_append,← he];exact dw
  have hm:by'.length * (don++[(upto 10 rest,decide (10∈rest))]).length≤1000 * 100000000:=Nat.mul_le_mul (by omega) (by omega);rw [qle,qlg] at c8;simp only [List.length_append] at c8 hm nc;repeat' (first|(apply q16;exact rfl;assumption;exact rfl)|(apply qay;exact rfl;assumption;(iterate 10 exact rfl))|apply qg|apply qh)
  refine⟨_,rfl,rfl,?_⟩;repeat' (first|apply qm|apply qu|apply qg|apply qh|(apply qe;exact rfl;apply cd_d <;> intro h)|(apply vf;exact rfl;exact rfl;exact cOs)|(apply zg;(iterate 3 exact rfl))|(apply qmc;(iterate 5 exact rfl))|apply qw|(apply qbr;exact rfl;exact zio tb rfl;(iterate 4 exact rfl))|(refine qq Tryz.call65 (qha st _ _ _ _ 0 1 0 _ _ _ rfl rfl ?_ ?_ rfl) ?_;(first|exact hq|exact .inr rfl);(simp only [List.length_append,List.length_cons,List.length_nil];omega)))
  all_goals
   have hx:indF by' (don++[(upto 10 rest,decide (10∈rest))])=(indF by' don++(by'++upto 10 rest))++wt (decide (10∈rest)):=by
    rw [qle,qlg];simp
   refine⟨[bldO 0 (.bx (st.length+0) 0 0) (indF by' (don++[(upto 10 rest,decide (10∈rest))])) (st.length+1),.tip (indF by' (don++[(upto 10 rest,decide (10∈rest))])).length 1 5,.cells 0 9 [Sv by'],.cells 0 9 [Sv text]],ext,[.cells 0 164 (qde k text rest).cells],?_,_,_,.inr rfl,he,rfl⟩
  ·have f9:10∈rest:=by simp_all
   rw [hx,show wt (decide (10∈rest))=[10] by simp [f9,wt]];rfl
  ·have f9:10∉rest:=by simp_all
   have hx2:indF by' (don++[(upto 10 rest,decide (10∈rest))])=indF by' don++(by'++upto 10 rest):=by
    rw [hx];simp [f9,wt]
   rw [hx2];rfl
 ·rintro k _ ext ⟨q,don,hq,hd,rfl⟩
  repeat' (first|apply qm|apply qg|apply qh|apply qi|apply q6|(refine qq Tryz.call62 (qf4 st _ _ _ _ 0 1 0 _ _ rfl rfl rfl) ?_))
  refine qxa (k:=4) rfl rfl rfl (qn rfl (zh rfl) ⟨congrArg (fun l:qc=>Sv l) (?_:_=x6 by' text),yl _ _ _ _⟩);rw [kv,List.append_nil] at hd;unfold x6;rw [hd]
end Go.Proofs.YtapblfabkbdgcaaGreatDoor
namespace Go.Pl
open Go Go.Proofs
def xx (x:LnV):qc×Bool:=(x.text,x.ended)
theorem qwa (l:qc):(lns l).map xx=zj l:=qv9 _ l 0 0 (Nat.le_refl _)
end Go.Pl
namespace Go.Proofs.YtapblfabkbdgcaaGreatDoor
open Go Go.Av Go.RowKit Go.Proofs Go.Pl
set_option maxHeartbeats 2000000 in
theorem q3c (text by':qc) (st:List AObj) (hl:text.length<100000000) (hb:by'.length<1000):qo E 70 [Sv text,Sv by'] st fun r st'=>r=Sv (x6 by' text)∧st'=st:=by
 refine ze (q8 _) (qr Tryz.func70 rfl (Nat.le_of_ble_eq_true rfl) ?_);obtain⟨hsum,dw⟩:=qcx _ text (Nat.le_refl _);have hp:=qwa text;have t6:(lns text).length=(zj text).length:=by rw [← hp,List.length_map]
 have i6:((lns text).map lnA).length=(lns text).length:=by simp
 repeat' (first|apply qm|apply qu|apply qg|apply qh|apply ql|apply qi|(apply ja;(iterate 4 exact rfl))|(apply qq;exact Tryz.call76;exact qs5 _ _ hl))
 refine qa0 (lns text) (fun pre s=>StE [(1,Sv by'),(5,Sv (indF by' (pre.map xx))),(9,lnsA (lns text)),(10,Iv (lns text).length),(11,Iv pre.length)] st [] s) (qci ⟨rfl,rfl,rfl,congrArg (fun n:Nat=>Iv (n:Int)) i6,rfl,trivial⟩ rfl) ?_ ?_
 ·rintro _ ⟨t,ext,rfl⟩
  repeat' (first|apply qm|apply qg|apply qh|apply ql|apply qi|(apply qt;(iterate 3 exact rfl))|(apply qe;exact rfl;apply wm;exact cAo)|apply jg|apply q6)
  refine qn rfl (zh rfl) ⟨congrArg (fun l:qc=>Sv l) (?_:indF by' ((lns text).map xx)=_),yl _ _ _ _⟩;rw [hp];rfl
 ·rintro pre a rest _ hr ⟨t,ext,rfl⟩
  have c8:(lns text).length=pre.length+(rest.length+1):=by rw [hr];simp
  have c9:((lns text).map lnA)[pre.length]? = some (lnA a):=by rw [hr];simp
  have he:zj text=(pre.map xx++[xx a])++rest.map xx:=by rw [← hp,hr];simp
  have hs2:lsum (pre.map xx++[xx a])+lsum (rest.map xx)=text.length:=by rw [← qz3,← he];exact hsum
  have mg:=qlf by' (pre.map xx++[xx a]);have hm:by'.length * (pre.map xx++[xx a]).length≤1000 * 100000000:=Nat.mul_le_mul (by omega) (by rw [List.length_append,List.length_map];simp;omega);rw [qle,qlg] at mg;have e1:(xx a).1=a.text:=rfl;have e2:(xx a).2=a.ended:=rfl;rw [e1,e2] at mg;simp only [List.length_append] at mg hm
  have hx:indF by' ((pre++[a]).map xx)=((indF by' (pre.map xx)++by')++a.text)++wt a.ended:=by
   rw [List.map_append,List.map_singleton,qle,qlg,e1,e2];simp
  cases hae:a.ended
  ·have hx2:indF by' ((pre++[a]).map xx)=(indF by' (pre.map xx)++by')++a.text:=by rw [hx,hae];simp [wt]
   rw [hae] at mg;repeat' (first|apply qm|apply qu|apply qg|apply qh|apply ql|apply qi|(apply qt;(iterate 3 exact rfl))|(apply qe;exact rfl;apply vj;exact cAo)|(apply qe;exact rfl;apply cd_f;exact cRa)|(apply vf;exact rfl;exact rfl;exact cOs)|(apply zn;exact rfl;exact rfl;exact zb (by omega) (by omega))|(apply jp;exact rfl;exact rfl)|(apply zg;(iterate 3 exact rfl))|(apply jo;(iterate 3 exact rfl))|(apply jf;(iterate 5 exact rfl))|(apply z4;(iterate 11 exact rfl))|apply qw|(apply j8 (n:=pre.length);(iterate 5 exact rfl);exact c9))
   exact y9 ⟨rfl,congrArg (fun l:qc=>Sv l) hx2.symm,rfl,rfl,qft pre a,trivial⟩ rfl
  ·have hx2:indF by' ((pre++[a]).map xx)=((indF by' (pre.map xx)++by')++a.text)++[10]:=by rw [hx,hae];simp [wt]
   rw [hae] at mg;have d5:(wt true).length=1:=rfl;repeat' (first|apply qm|apply qu|apply qg|apply qh|apply ql|apply qi|(apply qt;(iterate 3 exact rfl))|(apply qe;exact rfl;apply vj;exact cAo)|(apply qe;exact rfl;apply cd_t;exact cRa)|(apply vf;exact rfl;exact rfl;exact cOs)|(apply zn;exact rfl;exact rfl;exact zb (by omega) (by omega))|(apply jp;exact rfl;exact rfl)|(apply zg;(iterate 3 exact rfl))|(apply jo;(iterate 3 exact rfl))|(apply jf;(iterate 5 exact rfl))|(apply z4;(iterate 11 exact rfl))|apply qw|(apply j8 (n:=pre.length);(iterate 5 exact rfl);exact c9))
   exact y9 ⟨rfl,congrArg (fun l:qc=>Sv l) hx2.symm,rfl,rfl,qft pre a,trivial⟩ rfl
end Go.Proofs.YtapblfabkbdgcaaGreatDoor
namespace Go.Av
open Go Go.RowKit
def TipC (b:Nat) (st:List AObj) (sz:Nat) (T:TypeId) (xs:List AV) (c:AV):Prop:=(xs=[]∧c=zy)∨∃ t,c = .sl sz xs (some t)∧st[t]? = some (.tip xs.length sz T)∧b≤t
structure Fr (st st':List AObj) (t:Nat):Prop where
 len:st.length≤st'.length
 same:∀ k,k≠t→k<st.length→st'[k]? = st[k]?
theorem zea (b:Nat) (st:List AObj) (sz:Nat) (T:TypeId):TipC b st sz T [] zy:=.inl ⟨rfl,rfl⟩
theorem qio {b:Nat} {st l:List AObj} {sz:Nat} {T:TypeId} {xs:List AV} {c:AV} (h:TipC b st sz T xs c):TipC b (st++l) sz T xs c:=by
 rcases h with h | ⟨t,h1,h2,h3⟩
 ·exact .inl h
 ·exact .inr ⟨t,h1,by rw [List.getElem?_append_left (lt_of_getElem? h2)];exact h2,h3⟩
section
variable {E : Env} {rd : Option Nat} {N : Nat} {ops : Array Oper} {K : AS → Prop} {s : AS} {rest : List Oper} {d : Option Tmp} {T : TypeId} {p : String} {af : Array Edge}
theorem qyd {x y:Operand} {t u T':TypeId} {sz bytes b:Nat} {xs ys:List AV} {tip:Option Nat} {c:AV} {st:List AObj} (d8:s.st=st) (hx:qj N s x=c) (hc:TipC b st sz T' xs c) (hb:b≤st.length) (hy:qj N s y = .sl sz ys tip)
  (ht:E.P.underlying t=some (.slice T')) (hu:E.P.underlying u=some (.slice T')) (hT:w7 E.P T' sz bytes) (e8:jr (flat ys)=true) (l9:xs.length+ys.length≤maxLen) (hby:(xs.length+ys.length) * bytes≤140737488355328)
  (h:∀ t1 st',st'[t1]? = some (.tip (xs++ys).length sz T')→b≤t1→Fr st st' t1→(c = .sl sz xs (some t1)∨st.length≤t1)→AOps E rd N ops rest K (AS.put ⟨s.t,st',s.df⟩ d (.sl sz (xs++ys) (some t1)))):AOps E rd N ops (⟨d,.call ⟨.builtin .append,#[x,y],#[t,u]⟩,T,p,af,none⟩::rest) K s:=by
 subst d8;refine q7 rfl (qy nofun fun B0 w0 G a w _ hI=>?_);rcases hc with⟨gn,hcn⟩ | ⟨t1,h1,h2,h3⟩
 ·subst gn
  have d5:=G.le_new 0 0 0 false;have hA:=hI.agree.newTip sz T';have hv:a.eval x = .slice none 0 0:=hI.evalv (hx.trans hcn);have hn:=hI.agree.n;obtain⟨news,k1,k2,k3⟩:=ya (P:=E.P) hA ((hI.eval_of hy).mono d5) (by simpa [jr] using e8)
  have hr:Rel (G.new 0 0 0 false) (.sl sz [] (some s.st.length)) (a.eval x):=by
   rw [hv];exact .sl0 sz _ none 0 fun t ht=>by simp only [Option.some.injEq] at ht;subst ht;exact⟨by simp [Gh.new,hn],rfl,rfl⟩
  obtain⟨v',w',G',e1,e2,e3,e4⟩:=qbq (ty:=T) hA ht hu (.inr ⟨_,rfl⟩) hT (t:=s.st.length) (n:=0) (by simp) hr rfl rfl k1 k2 k3 (by simpa using l9) (by simpa using hby);refine⟨v',w',G',_,_,?_,d5.trans e2,e3,e4,h s.st.length _ ?_ hb ⟨by simp,fun k hk d6=>?_⟩ (.inr (Nat.le_refl _))⟩
  ·generalize a.eval = ρ at e1
   simp [execOp,resolve,invoke,builtin,e1]
  ·simp
  ·rw [List.getElem?_set_ne (Ne.symm hk),List.getElem?_append_left d6]
 ·obtain⟨news,k1,k2,k3⟩:=ya (P:=E.P) hI.agree (hI.eval_of hy) (by simpa [jr] using e8)
  obtain⟨v',w',G',e1,e2,e3,e4⟩:=qbq (ty:=T) hI.agree ht hu (.inr ⟨_,rfl⟩) hT h2 (hI.eval_of (hx.trans h1)) rfl rfl k1 k2 k3 l9 hby;refine⟨v',w',G',_,_,?_,e2,e3,e4,h t1 _ ?_ h3 ⟨by simp,fun k hk d6=>?_⟩ (.inl h1)⟩
  ·generalize a.eval = ρ at e1
   simp [execOp,resolve,invoke,builtin,e1]
  ·rw [List.length_append]
   exact ke h2
  ·rw [List.getElem?_set_ne (Ne.symm hk)]
theorem qmr {t:TypeId} {x:Operand} {r:AV} {cs:List AV} (hx:qj N s x=r) (hok:r.okc=true) (hc:r.cells=cs)
  (h:AOps E rd N ops rest K (s.put d (.pp cs))):AOps E rd N ops (⟨d,.box t x,T,p,af,none⟩::rest) K s:=by
 refine q7 rfl (qy nofun fun B0 w0 G a w _ hI=>?_);have hr:=(hI.eval_of hx).cells hok;rw [hc] at hr;obtain⟨d5,hA⟩:=hI.agree.newPub t (a.eval x).cells (0,0) (a.eval x).cells.toList (fun i y hy=>by simpa using hy)
 have a8:(execOp a.eval ⟨d,.box t x,T,p,af,none⟩).run E.P w = .ok (.value (.pointer (some ⟨w.heap.size,0,none⟩))) (w.alloc (.cells (a.eval x).cells t)):=by
  generalize a.eval = ρ;simp [execOp,Instr.box,newVar,newRow,newObj,Sem.run]
 refine⟨_,_,_,.pp cs,s.st,a8,d5,hA,.pp cs w.heap.size 0 (a.eval x).cells.toList (by simp [Gh.publish]) (by rw [hr.1];simp) fun i x y hx hy=>(hr.2 i x y hx (by simpa using hy)).mono d5,h⟩
end
theorem qox {E:Env} {f:FuncId} {x x':AV} {us:List AV} {st:List AObj} {R:AV→List AObj→Prop} (hw:∀ G v,Rel G x v→Rel G x' v) (h:qo E f (x'::us) st R):qo E f (x::us) st R:=
 ⟨fun B0 w0 G vals w hL hA hR=>h.run B0 w0 G vals w hL hA ⟨by have:=hR.1;simpa using this,fun i a b ha hb=>by
  cases i with
  |zero=>simp at ha;subst ha;exact hw G b (hR.2 0 x b rfl hb)
  |succ i=>exact hR.2 (i+1) a b (by simpa using ha) hb⟩⟩
theorem qbk {st l:List AObj} {o:Nat} {x:AObj} (h:st[o]? = some x):(st++l)[o]? = some x:=by
 rw [List.getElem?_append_left (lt_of_getElem? h)];exact h
theorem wh {st:List AObj} {x:AObj}:(st++[x])[st.length]? = some x:=by simp
section
variable {E : Env} {rd : Option Nat} {N : Nat} {ops : Array Oper} {K : AS → Prop} {s : AS} {rest : List Oper} {d : Option Tmp} {T : TypeId} {p : String} {af : Array Edge}
theorem qjt {t:TypeId} {st:List AObj} {cs:List AV} (d8:s.st=st) (hz:qht E.P t=some cs)
  (h:AOps E rd N ops rest K (AS.put ⟨s.t,st++[.cells 0 t cs],s.df⟩ d (.bx st.length 0 0))):AOps E rd N ops (⟨d,.alloc t,T,p,af,none⟩::rest) K s:=
 jp (loc:=[]) (by rw [d8];simp) hz h
theorem q7y {t:TypeId} {x:Operand} {st:List AObj} {r:AV} {cs:List AV} (d8:s.st=st) (hx:qj N s x=r) (hok:r.okc=true) (hc:r.cells=cs)
  (h:AOps E rd N ops rest K (AS.put ⟨s.t,st++[.cells 0 t cs],s.df⟩ d (.bx st.length 0 0))):AOps E rd N ops (⟨d,.box t x,T,p,af,none⟩::rest) K s:=
 qbe (loc:=[]) (by rw [d8];simp) hx hok hc h
end
theorem qk7 {st st':List AObj} (hl:st.length≤st'.length) (h:∀ k,k<st.length→st'[k]? = st[k]?):∃ ext,st'=st++ext:=by
 refine⟨st'.drop st.length,?_⟩;apply List.ext_getElem?;intro k;by_cases hk:k<st.length
 ·rw [h k hk,List.getElem?_append_left hk]
 ·rw [List.getElem?_append_right (by omega),List.getElem?_drop]
  congr 1;omega
end Go.Av
namespace Go.Proofs.YtapblfabkbdgcaaGreatDoor
open Go Go.Av Go.RowKit Go.Proofs
def qih (x:Option AObj):Prop:=∀ n sz T,x≠some (.tip n sz T)
theorem yw {ver:Nat} {T:TypeId} {cs:List AV} {x:Option AObj} (h:x=some (.cells ver T cs)):qih x:=fun n sz T' e=>by
 rw [h] at e;simp at e
end Go.Proofs.YtapblfabkbdgcaaGreatDoor
namespace Go.Proofs.YtapblfabkbdgcaaGreatDoor
open Go Go.Av Go.RowKit Go.Proofs Go.Pl
structure Ext (n:Nat) (S S':List AObj):Prop where
 len:S.length≤S'.length
 low:∀ k,k<n→S'[k]? = S[k]?
 tips:∀ (t m sz:Nat) (T:TypeId),S[t]? = some (AObj.tip m sz T)→S'[t]? = S[t]?
theorem qhv {n:Nat} {S l:List AObj} (h:n≤S.length):Ext n S (S++l):=⟨by simp,fun k hk=>List.getElem?_append_left (by omega),fun t m sz T ht=>List.getElem?_append_left (lt_of_getElem? ht)⟩
theorem qdd {n o:Nat} {S:List AObj} {x:AObj} (h:n≤o) (hn:qih S[o]?):Ext n S (S.set o x):=⟨by simp,fun k hk=>List.getElem?_set_ne (by omega),fun t m sz T ht=>List.getElem?_set_ne (fun e=>by subst e;exact hn _ _ _ ht)⟩
theorem Ext.weak {n m:Nat} {S S':List AObj} (h:Ext n S S') (hm:m≤n):Ext m S S':=⟨h.len,fun k hk=>h.low k (by omega),h.tips⟩
theorem Ext.trans {n:Nat} {S S' S'':List AObj} (h:Ext n S S') (k:Ext n S' S''):Ext n S S'':=⟨Nat.le_trans h.len k.len,fun i hi=>(k.low i hi).trans (h.low i hi),fun t m sz T ht=>(k.tips t m sz T ((h.tips t m sz T ht).trans ht)).trans (h.tips t m sz T ht)⟩
theorem zaw (text:List UInt8) (o kb ver n m:Nat) (I:Nat→List UInt8→List AObj→Prop) (D:List AObj→Prop) (S:List AObj) (hm:S.length=m) (hn:n≤m) (ht:text.length<4294967281) (h0:I 0 text S)
  (hI:∀ k rest S',I k rest S'→S'[kb]? = some (.cells ver 9 [Sv text]))
  (d8:∀ k rest S' S'',Ext n S' S''→I k rest S'→I k rest S'')
  (hY:∀ k rest S' cs,I k rest S'→S'[m]? = some (.cells 0 164 cs)→rest≠[]→rest.length≤text.length→ye E o [qde k text rest] S' fun b S''=>S''[m]? = some (.cells 0 164 cs)∧(b=true→I (k+1) (past 10 rest) S'')∧(b=false→D S'')) :
  qo E 120 [.yd o,.bx kb ver 0] S fun r S'=>(∃ k,I k [] S')∨D S':=by
 subst hm;refine qr Tryz.func120 rfl (Nat.le_of_ble_eq_true rfl) ?_;have hb:=hI 0 text S h0;repeat' (first|apply qm|apply qu|apply qg|apply qh|apply qi|(apply jp;exact rfl;exact rfl)|(apply z4;(iterate 11 exact rfl))|(apply xk;(iterate 3 exact rfl))|(apply qar;exact rfl;exact rfl;exact hb;exact rfl;exact rfl))
 refine ju (fun (x:Nat×List UInt8) s=>match x with|(k,rest)=>∃ S' at' ta eb,I k rest S'∧k+rest.length≤text.length∧at'=(text.length:Int) - rest.length∧S'[S.length]? = some (.cells 0 164 [Iv k,Iv at',Sv ta,Bv eb])∧StA [(0,.yd o),(1,.bx kb ver 0),(3,.bx S.length 0 0),(4,Sv rest)] S' [] s) (fun x=>x.2.length) (0,text)
  ⟨_,0,[],false,d8 _ _ _ _ (qhv hn) h0,by simp,by simp,jl (k:=0) rfl,jd ⟨rfl,rfl,rfl,rfl,trivial⟩⟩ ?_
 rintro⟨k,rest⟩ _ ⟨S',_,ta,eb,hi,d5,rfl,bm,t,rfl⟩;have mb:=hI k rest S' hi;repeat' (first|apply qm|apply qu|apply qg|apply qh|apply ql|apply qi|(apply zz;exact rfl;exact rfl)|(apply kr;(iterate 3 exact rfl))|(apply qe;exact rfl;apply cd_d <;> intro h)|(apply zg;(iterate 3 exact rfl))|apply qw|apply jg|(apply qq;exact Tryz.call39;exact qko _ _ _ (by omega))|(apply kf;exact rfl;(focus first|assumption|(repeat' (first|assumption|exact wh|exact jl rfl|apply ke|apply kq|omega|apply qbk)));exact rfl;exact rfl)|(apply x9;exact rfl;exact rfl;(focus first|assumption|(repeat' (first|assumption|exact wh|exact jl rfl|apply ke|apply kq|omega|apply qbk)));(iterate 6 exact rfl)))
 ·have e1:Ext n S' ((S'.set S.length (.cells 0 164 [Iv k,Iv ((text.length:Int) - rest.length),Sv (upto 10 rest),Bv eb])).set S.length (.cells 0 164 [Iv k,Iv ((text.length:Int) - rest.length),Sv (upto 10 rest),Bv (decide (10∈rest))])):=
   (qdd hn (yw bm)).trans (qdd hn (yw (ke bm)))
  apply qc9 (o:=o) rfl;refine ye.mono (hY k rest _ _ (d8 _ _ _ _ e1 hi) (ke (ke bm)) h (by omega)) ?_;rintro b S2 ⟨nz,h1,h2⟩
  show AOps _ _ _ _ _ _ _
  cases b
  ·skip
   repeat' (first|apply qh|(apply kp;exact rfl)|(apply qe;exact rfl;apply qoa;exact cRa)|apply q6)
   exact qn rfl (yu rfl) (.inr (h2 rfl))
  ·have hi3:=h1 rfl
   have cq:=hI _ _ _ hi3;have hp:=vo 10 rest;have dg:0<rest.length:=List.length_pos_iff.2 h
   have hkb:kb≠S.length:=fun e=>by
    rw [e,nz] at cq;simp at cq
   repeat' (first|apply qm|apply qg|apply qh|apply ql|(apply kp;exact rfl)|(apply qe;exact rfl;apply qrp;exact cRa)|(apply jy;(iterate 3 exact rfl))|(apply zn;exact rfl;exact rfl;exact zb (by omega) (by omega))|(apply yj;exact rfl;exact rfl;exact zb (by omega) (by omega))|(apply zg;(iterate 3 exact rfl))|apply qw|(apply kf;exact rfl;exact kq cq (Ne.symm hkb);exact rfl;exact rfl)|(apply kf;exact rfl;(focus first|assumption|(repeat' (first|assumption|exact wh|exact jl rfl|apply ke|apply kq|omega|apply qbk)));exact rfl;exact rfl)|(apply x9;exact rfl;exact rfl;(focus first|assumption|(repeat' (first|assumption|exact wh|exact jl rfl|apply ke|apply kq|omega|apply qbk)));(iterate 6 exact rfl)))
   have e2:Ext n S2 _:=(qdd hn (yw nz)).trans (qdd (x:=.cells 0 164 [Iv ((k:Int)+1),Iv ((text.length:Int) - (past 10 rest).length),Sv (upto 10 rest),Bv (decide (10∈rest))]) hn (yw (ke (y:=.cells 0 164 [Iv ((k:Int)+1),Iv ((text.length:Int) - rest.length),Sv (upto 10 rest),Bv (decide (10∈rest))]) nz)));exact⟨(k+1,past 10 rest),⟨_,_,_,_,d8 _ _ _ _ e2 hi3,by omega,rfl,ke (ke nz),jd ⟨rfl,rfl,rfl,rfl,trivial⟩⟩,by simp only;omega⟩
 ·have hr:rest=[]:=Classical.not_not.1 h
  subst hr;exact qn rfl (yu rfl) (.inl ⟨k,hi⟩)
structure ItC (g:FuncId) (T:TypeId) (cs:List AV) {ι : Type} (Y : ι→Option (AV×ι)) (i0 : ι):Prop where
 run:∀ (o kb n m:Nat) (I : ι→List AObj→Prop) (D:List AObj→Prop) (S:List AObj),S.length=m→n≤m→I i0 S →
  (∀ i S',I i S'→S'[kb]? = some (.cells 0 T cs))→(∀ i S' S'',Ext n S' S''→I i S'→I i S'') →
  (∀ i x j S' (own:List AObj),I i S'→(∀ k y,own[k]? = some y→S'[m+k]? = some y∧qih (some y))→Y i=some (x,j)→ye E o [x] S' fun b S''=>(∀ k y,own[k]? = some y→S''[m+k]? = some y)∧(b=true→I j S'')∧(b=false→D S'')) →
  qo E g [.yd o,.bx kb 0 0] S fun r S'=>(∃ i,Y i=none∧I i S')∨D S'
def qnz (text:List UInt8):Nat×List UInt8→Option (AV×(Nat×List UInt8))
 |(k,rest)=>if rest=[]∨text.length<rest.length then none else some (qde k text rest,(k+1,past 10 rest))
theorem zd2 (text:List UInt8) (ht:text.length<4294967281):ItC 120 9 [Sv text] (qnz text) (0,text):=⟨fun o kb n m I D S hm hn h0 hI d8 hY=>by
 refine (zaw text o kb 0 n m (fun k rest S=>I (k,rest) S∧rest.length≤text.length) D S hm hn ht ⟨h0,Nat.le_refl _⟩ (fun k rest S' h=>hI _ _ h.1) (fun k rest S' S'' hE h=>⟨d8 _ _ _ hE h.1,h.2⟩) (fun k rest S' cs hi bm b8 d5=>?_)).mono ?_
 ·refine (hY (k,rest) (qde k text rest) (k+1,past 10 rest) S' [.cells 0 164 cs] hi.1 (fun j y hy=>?_) (if_neg fun h=>h.elim b8 (by omega))).mono fun b S'' ⟨h1,h2,h3⟩=>⟨by have:=h1 0 _ rfl;simpa using this,fun hb=>⟨h2 hb,by have:=vo 10 rest;omega⟩,h3⟩
  match j with
  | 0=>
   simp only [List.getElem?_cons_zero,Option.some.injEq] at hy;subst hy
   exact⟨bm,yw rfl⟩
  |j+1=>simp at hy
 ·rintro r S' (⟨k,h⟩|h)
  ·exact .inl ⟨(k,[]),by simp [qnz],h.1⟩
  ·exact .inr h⟩
@[reducible] def zi7 (n : Nat) (F : LoopState → Option Code → AObj) (own : List AObj) (I : List AObj → Prop) (D : Code → List AObj → Prop) : Exit → AS → Prop
 | .normal,s=>s.st[n]? = some .dfr∧s.st[n+1]? = some (F .busy none)∧(∀ k y,own[k]? = some y→s.st[n+2+k]? = some y)∧I s.st
 | .ret,s=>s.st[n]? = some .dfr∧s.st[n+1]? = some (F .busy none)∧(∀ k y,own[k]? = some y→s.st[n+2+k]? = some y)∧D .ret s.st
 | .exit id,s=>s.st[n]? = some .dfr∧s.st[n+1]? = some (F .busy none)∧(∀ k y,own[k]? = some y→s.st[n+2+k]? = some y)∧D (.exit id) s.st
 | _,_=>False
theorem qii {N:Nat} {t:Nat→AV} {ps:Array Tmp} {asg body:Code} {F:LoopState→Option Code→AObj} (hF:qk1 F N t ps asg body) (ls:LoopState) (pend:Option Code) {x:Option AObj} (h:x=some (F ls pend)):qih x:=fun n sz T' e=>by
 rw [h,hF] at e;simp at e
theorem qyt {N:Nat} {Q:Exit→AS→Prop} {s:AS} {f:Operand} {p:Tmp} {asg body:Code} {S0:List AObj} {kb:Nat} {g:FuncId} {T:TypeId} {cs:List AV} {ι : Type} {Y : ι→Option (AV×ι)} {i0 : ι} (hit:ItC g T cs Y i0) (d8:s.st=S0) (hx:qj N s f = .fn (.func g) [] [.bx kb 0 0])
  (a8:∀ vs w,(callFunc g vs).run E.P w = .ok (.enter g vs) w)
  (I : ι→List AObj→Prop) (D:Code→List AObj→Prop) (h0:I i0 S0)
  (hI:∀ i S,I i S→S[kb]? = some (.cells 0 T cs))
  (rg:∀ i S S',Ext S0.length S S'→I i S→I i S') (hs2:∀ c S S',Ext S0.length S S'→D c S→D c S')
  (hb:∀ F (own:List AObj) rd i x j S,qk1 F N s.t #[p] asg body→I i S→Y i=some (x,j)→S[S0.length]? = some .dfr→S[S0.length+1]? = some (F .ready none)→(∀ k y,own[k]? = some y→S[S0.length+2+k]? = some y∧qih (some y)) →
   AWp E (some rd) N asg (only fun s1=>s1.st[S0.length+1]? = some (F .ready none)∧s1.df=[]∧AWp E (some rd) N body (zi7 S0.length F own (I j) D) ⟨s1.t,s1.st.set (S0.length+1) (F .busy none),[]⟩) ⟨put s.t p x,S,[]⟩)
  (hn:∀ i S,Y i=none→I i S→S[S0.length]? = some .dfr→Q .normal ⟨s.t,S,S0.length::s.df⟩)
  (hd:∀ c S,D c S→S[S0.length]? = some .dfr→AWp E none N c Q ⟨s.t,S,S0.length::s.df⟩):AWp E none N (.rangeFunc f #[p] asg body) Q s:=by
 refine qk5 (st:=S0) (loc:=[]) (by rw [d8];simp) hx a8 fun F hF=>?_;have hl:(S0++([]++[AObj.dfr,F .ready none])).length=S0.length+2:=by simp
 have g1:(S0++([]++[AObj.dfr,F .ready none]))[S0.length]? = some .dfr:=by simp
 have g2:(S0++([]++[AObj.dfr,F .ready none]))[S0.length+1]? = some (F .ready none):=by simp
 have hz:S0.length+(([]:List AObj).length+1)=S0.length+1:=by simp
 rw [hz,show S0.length+([]:List AObj).length=S0.length from rfl];refine qo.mono (hit.run (S0.length+1) kb (S0.length+2) (S0.length+2) (fun i S=>I i S∧S[S0.length]? = some .dfr∧S[S0.length+1]? = some (F .ready none)) (fun S=>∃ c,D c S∧S[S0.length]? = some .dfr∧S[S0.length+1]? = some (F .done (some c))) (S0++([]++[.dfr,F .ready none])) hl (Nat.le_refl _) ⟨rg _ _ _ (qhv (Nat.le_refl _)) h0,g1,g2⟩ (fun i S h=>hI i S h.1) (fun i S S' hE h=>⟨rg _ _ _ (hE.weak (by omega)) h.1,(hE.low _ (by omega)).trans h.2.1,(hE.low _ (by omega)).trans h.2.2⟩) ?_) ?_
 ·rintro i x j S' own ⟨hi,hd1,pt⟩ bm hy
  refine qp0 hF pt rfl fun rd=>?_;refine (hb F own rd i x j S' hF hi hy hd1 pt bm).mono fun e s1 hq=>?_;have fin:∀ {S:List AObj} {z:AObj},(∀ k y,own[k]? = some y→S[S0.length+2+k]? = some y)→∀ k y,own[k]? = some y→(S.set (S0.length+1) z)[S0.length+2+k]? = some y:=fun h k y hk=>kq (h k y hk) (by omega)
  cases e with
  |normal=>
   obtain⟨q1,q2,q3⟩:=hq;refine⟨q1,q2,q3.mono fun e s2 s6=>?_⟩
   cases e with
   |normal=>
    obtain⟨k1,k2,k3,k4⟩:=s6
    exact⟨k2,fin k3,fun _=>⟨rg _ _ _ (qdd (by omega) (qii hF _ _ k2)) k4,kq k1 (by omega),ke k2⟩,nofun⟩
   |ret=>
    obtain⟨k1,k2,k3,k4⟩:=s6
    exact⟨k2,fin k3,nofun,fun _=>⟨_,hs2 _ _ _ (qdd (by omega) (qii hF _ _ k2)) k4,kq k1 (by omega),ke k2⟩⟩
   |exit id=>
    obtain⟨k1,k2,k3,k4⟩:=s6
    exact⟨k2,fin k3,nofun,fun _=>⟨_,hs2 _ _ _ (qdd (by omega) (qii hF _ _ k2)) k4,kq k1 (by omega),ke k2⟩⟩
   | _=>exact s6.elim
  | _=>exact hq.elim
 ·rintro r S' (⟨i,hy,hi,hd1,pt⟩ | ⟨c,hi,hd1,pt⟩)
  ·exact⟨.ready,none,nofun,pt,hn i _ hy (rg _ _ _ (qdd (by omega) (qii hF _ _ pt)) hi) (kq hd1 (by omega))⟩
  ·exact⟨.done,some c,nofun,pt,hd c _ (hs2 _ _ _ (qdd (by omega) (qii hF _ _ pt)) hi) (kq hd1 (by omega))⟩
end Go.Proofs.YtapblfabkbdgcaaGreatDoor
namespace Go.Av
open Go Go.RowKit
theorem qq7 {P:Program} {B0:Nat} {w0:World} {G:Gh} {st:List AObj} {w:World} (hA:zi B0 w0 G st w) {tt u ty T:TypeId} {du:TypeDesc} (htt:P.underlying tt=some (.slice T)) (hu:P.underlying u=some du) (hd:qhy du)
  {sz bytes:Nat} (hT:w7 P T sz bytes) {t n m:Nat} (ht:st[t]? = some (.tip n sz T)) {xs ys:List AV} {x:Value} (hn:xs.length=n) (hm:ys.length=m)
  {news:List Value} (hx:Src P w x m sz news) (pj:∀ y∈ys,y.cells.length=sz) (f0:∀ (i:Nat) (a:AV) (b:Value),(flat ys)[i]? = some a→news[i]? = some b→Rel G a b)
  (l9:n+m≤maxLen) (base:Option Addr) (c:Nat) (olds:List Value) (ho:(Builtin.firstCells sz n (.slice base n c)).run P w.drew = .ok olds.toArray w.drew) (hc:c<n+m) (fm:olds.length=n * sz) (dt:(flat xs).length=n * sz) (hwx:∀ x∈xs,x.cells.length=sz)
  (tx:∀ (j:Nat) (a:AV) (b:Value),(flat xs)[j]? = some a→olds[j]? = some b→Rel G a b) (e9:Builtin.nextslicecap (n+m) c * bytes≤281474976710656) (gk:m≠0) :
  ∃ v' w' G',(Builtin.append_ #[tt,u] ty #[.slice base n c,x]).run P w = .ok v' w'∧G.le G'∧zi B0 w0 G' (st.set t (.tip (n+m) sz T)) w'∧Rel G' (.sl sz (xs++ys) (some t)) v':=by
 obtain⟨i,z,hi,hz,rfl,rfl,cm⟩:=hT.ex;obtain⟨hraw,p8,htip⟩:=hA.ob t _ ht;have htn:t<G.n:=by rw [hA.n];exact lt_of_getElem? ht
 have d6:G.n=st.length:=hA.n;have hk:=hA.kill t;have gj:(st.set t .dead)[t]? = some .dead:=x3 ht
 have i4:∀ o x,(st.set t .dead)[o]? = some x→x.live→o≠t∧st[o]? = some x:=fun o x hx hl=>by
  rcases getElem?_set' _ _ _ _ _ hx with⟨_,e⟩ | ⟨h1,h2⟩
  ·subst e;exact hl.elim
  ·exact⟨h1,h2⟩
 have s7:(st.set t AObj.dead).set t (.tip (n+m) i.size T)=st.set t (.tip (n+m) i.size T):=by rw [List.set_set]
 have g8:st.set t (.tip n i.size T)=st:=by
  apply List.ext_getElem?;intro k;by_cases e:t=k
  ·subst e;rw [List.getElem?_set_self (lt_of_getElem? ht)];exact ht.symm
  ·rw [List.getElem?_set_ne e]
 have a8:=qc5 (ty:=ty) htt hu hd hi hz hx base n c olds ho hc (by simp only [maxLen] at l9;omega) e9;have cw:=grownCap_ge w (n+m) c T;have d5:=grownCap_le_maxLen w (n+m) c T l9;generalize grownCap w (n+m) c T=cap at a8 cw d5
 have f8:(olds.toArray++news.toArray++Builtin.zeroCells z.cells (cap - (n+m))).size=cap * i.size:=by
  simp only [Array.size_append,List.size_toArray,size_zeroCells,cm,fm,hx.count,← Nat.add_mul];congr 1;omega
 generalize hcv:olds.toArray++news.toArray++Builtin.zeroCells z.cells (cap - (n+m))=c' at a8 f8;have m6:Below w.heap.size w w.drew:=⟨rfl,rfl,rfl,Nat.le_refl _,fun _ _=>rfl⟩;have bq:=hk.fresh m6
 have bn:∀ (j:Nat) (y:Value),(olds++news)[j]? = some y→c'[j]? = some y:=fun j y hy=>by
  have hj:=lt_of_getElem? hy;rw [← hcv,Array.getElem?_append_left (by simp at hj ⊢;omega),List.append_toArray]
  simpa using hy
 obtain⟨m7,bp⟩:=bq.newPub T c' (0,0) (olds++news) bn
 have hnp:G.pub w.heap.size=none:=by
  cases hp:G.pub w.heap.size with
  |none=>rfl
  |some vs=>exact absurd (hA.pub_lt hp) (Nat.lt_irrefl _)
 obtain⟨o0,hA3⟩:=bp.setTip (n':=n+m) (vs:=olds++news) (k:=w.heap.size) (cap:=cap * i.size) (sz:=i.size) (T:=T) gj (by simpa [Gh.publish] using hraw) (by simpa [Gh.publish] using p8) (by omega) (ym w.drew _) (by simp [Gh.publish]) (by simp [fm,hx.count,Nat.add_mul]) f8 hA.hB (fun o x hx hl=>by
  obtain⟨_,e7⟩:=i4 o x hx hl
  exact Nat.ne_of_lt ((hA.ob o x e7).lt hl))
 rw [s7] at hA3;refine⟨_,_,_,a8,m7.trans o0,hA3,?_⟩;have o8:∀ {a b},Rel G a b→Rel ((G.publish w.drew.heap.size (olds++news)).setOb t ⟨n+m,w.heap.size,cap * i.size,false⟩) a b:=fun h=>(h.mono m7).mono o0;refine quw (n:=n) (m:=m) (cap:=cap) (k:=w.heap.size) (vs:=olds) (news:=news) (by simp [Gh.setOb]) (by simp [Gh.setOb]) (by simp [Gh.setOb]) d5 cw (by simpa [Gh.setOb,Gh.publish] using htn) (by omega) hn hm (by simp [Gh.setOb,Gh.publish]) (fun y hy=>?_) fm hx.count dt (fun j a b h1 h2=>o8 (tx j a b h1 h2)) (fun j a b h1 h2=>o8 (f0 j a b h1 h2));rcases List.mem_append.1 hy with h|h
 ·exact hwx y h
 ·exact pj y h
def TipO (b:Nat) (st:List AObj) (sz:Nat) (T:TypeId) (xs:List AV) (c:AV):Prop:=TipC b st sz T xs c∨(xs=[]∧∃ o v f,c = .os o v f 0 0)
theorem q1w (b:Nat) (st:List AObj) (sz:Nat) (T:TypeId):TipO b st sz T [] zy:=.inl (zea ..)
theorem q41 (b:Nat) (st:List AObj) (sz:Nat) (T:TypeId) (o v f:Nat):TipO b st sz T [] (.os o v f 0 0):=.inr ⟨rfl,_,_,_,rfl⟩
theorem zg2 {G:Gh} {o v f:Nat} {sz:Nat} {x:Value} (h:Rel G (.os o v f 0 0) x):Rel G (.sl sz [] none) x:=by
 cases h with
 |os _ _ _ _ b _ hn hv h=>exact .sl0 sz none _ _ (by simp)
section
variable {E : Env} {rd : Option Nat} {N : Nat} {ops : Array Oper} {K : AS → Prop} {s : AS} {rest : List Oper} {d : Option Tmp} {T : TypeId} {p : String} {af : Array Edge}
theorem qh0 {x y:Operand} {t u T':TypeId} {sz bytes b:Nat} {xs ys:List AV} {tip:Option Nat} {c:AV} {st:List AObj} (d8:s.st=st) (hx:qj N s x=c) (hy:qj N s y = .sl sz ys tip)
  (ht:E.P.underlying t=some (.slice T')) (hu:E.P.underlying u=some (.slice T')) (hT:w7 E.P T' sz bytes) (hc:TipO b st sz T' xs c) (hb:b≤st.length) (e8:jr (flat ys)=true) (l9:xs.length+ys.length≤maxLen) (hby:(xs.length+ys.length) * bytes≤140737488355328)
  (h:∀ c' st' t1,TipO b st' sz T' (xs++ys) c'→Fr st st' t1→b≤t1→(c = .sl sz xs (some t1)∨st.length≤t1)→AOps E rd N ops rest K (AS.put ⟨s.t,st',s.df⟩ d c')):AOps E rd N ops (⟨d,.call ⟨.builtin .append,#[x,y],#[t,u]⟩,T,p,af,none⟩::rest) K s:=by
 rcases hc with hc | ⟨gn,o,ver,f,hco⟩
 ·refine qyd d8 hx hc hb hy ht hu hT e8 l9 hby fun t1 st' g1 g2 g3 g4=>h _ st' t1 (.inl (.inr ⟨t1,rfl,g1,g2⟩)) g3 g2 g4
 ·subst d8
  subst gn;refine q7 rfl (qy nofun fun B0 w0 G a w _ hI=>?_);have he:=hI.eval_of (hx.trans hco);obtain⟨news,k1,k2,k3⟩:=ya (P:=E.P) hI.agree (hI.eval_of hy) (by simpa [jr] using e8);have hex:=hT.ex;obtain⟨i,z,hi,hz,f8,pn,cm⟩:=hex;generalize hv:a.eval x=v at he
  cases he with
  |os _ _ _ _ blk _ hn hvv hbb=>
   by_cases gk:ys.length=0
   ·have ld:ys=[]:=List.eq_nil_of_length_eq_zero gk
    subst ld
    have hk1':Src E.P w (a.eval y) 0 i.size []:=by
     have:news=[]:=List.eq_nil_of_length_eq_zero (by simpa using k1.count);rw [f8];rw [this] at k1;exact k1
    refine⟨_,w,G,_,s.st,?_,.refl G,hI.agree,.os o ver f 0 blk 0 hn hvv hbb,h _ s.st s.st.length (.inr ⟨rfl,o,ver,f,rfl⟩) ⟨Nat.le_refl _,fun _ _ _=>rfl⟩ hb (.inr (Nat.le_refl _))⟩;have:=qbz (ty:=T) ht hu (.inr ⟨_,rfl⟩) hi hk1' (some ⟨blk,f,none⟩) 0 0 (Nat.le_refl _);generalize a.eval = ρ at hv this;simp [execOp,resolve,invoke,builtin,hv,this]
   ·have d5:=G.le_new 0 0 0 false
    have hA:=hI.agree.newTip sz T';have hz63:0+ys.length≤maxLen:=by simpa using l9
    obtain⟨v',w',G',e1,e2,e3,e4⟩:=qq7 (ty:=T) hA ht hu (.inr ⟨_,rfl⟩) hT (t:=s.st.length) (n:=0) (xs:=[]) (by simp) rfl rfl k1 k2 (fun i a b h1 h2=>(k3 i a b h1 h2).mono d5) hz63 (some ⟨blk,f,none⟩) 0 []
     (run_firstCells_some w.drew sz 0 ⟨blk,f,none⟩ 0 0 [] (by simp) (by simp)) (by omega) (by simp) (by simp [flat]) (by simp) (by simp [flat]) (by rw [Nat.zero_add,nextslicecap_zero (by omega)];have:=hby;simp at this;omega) gk
    refine⟨v',w',G',_,_,?_,d5.trans e2,e3,e4,h _ _ s.st.length (.inl (.inr ⟨s.st.length,rfl,?_,hb⟩)) ⟨by simp,fun k hk d6=>?_⟩ hb (.inr (Nat.le_refl _))⟩
    ·generalize a.eval = ρ at e1 hv
     simp [execOp,resolve,invoke,builtin,hv,e1]
    ·simp
    ·rw [List.getElem?_set_ne (Ne.symm hk),List.getElem?_append_left d6]
end
theorem qb4 {α : Type} {g : α→AV} {l:List α} (h:∀ a,jr (g a).cells=true):jr (flat (l.map g))=true:=by
 induction l with
 |nil=>rfl
 |cons a r ih=>
  have h1:=h a;unfold jr flat at *;rw [List.map_cons,List.flatMap_cons,List.all_append,h1,ih];rfl
theorem qly {b:Nat} {st:List AObj} {sz:Nat} {T:TypeId} {xs:List AV} {c:AV} (h:TipO b st sz T xs c):∀ G v,Rel G c v→Rel G (.sl sz xs none) v:=by
 rcases h with (⟨rfl,rfl⟩ | ⟨t,rfl,_⟩) | ⟨rfl,o,v,f,rfl⟩
 ·exact fun G v h=>qbb h
 ·exact fun G v h=>qjm h
 ·exact fun G v h=>zg2 h
end Go.Av
namespace Go.Av
open Go Go.RowKit
inductive SrcA (st:List AObj) (sz:Nat):AV→Nat→Nat→List AV→Prop
 |sl (ys:List AV) (tip:Option Nat) (e8:jr (flat ys)=true):SrcA st sz (.sl sz ys tip) ys.length ys.length (flat ys)
 |os (o ver off L cap m:Nat) (T:TypeId) (cs:List AV) (ho:st[o]? = some (.cells ver T cs)) (e9:off+m * sz≤cs.length) (e8:jr ((cs.drop off).take (m * sz))=true):SrcA st sz (.os o ver off L cap) L m ((cs.drop off).take (m * sz))
structure SrcP (P:Program) (w:World) (x:Value) (L m size:Nat) (news:List Value):Prop where
 len:∀ w',(Builtin.lenOf x).run P w' = .ok L w'
 cells:∀ w',Below w.heap.size w w'→(Builtin.firstCells size m x).run P w' = .ok news.toArray w'
 count:news.length=m * size
 one:∀ u∈news,u.oneCell'=true
section
variable {B0 : Nat} {w0 : World} {G : Gh} {st : List AObj} {w : World}
theorem qos {P:Program} (hA:zi B0 w0 G st w) {sz L m:Nat} {a:AV} {zs:List AV} {x:Value} (h:SrcA st sz a L m zs) (hr:Rel G a x) :
  ∃ news,SrcP P w x L m sz news∧zs.length=m * sz∧∀ (i:Nat) (a:AV) (b:Value),zs[i]? = some a→news[i]? = some b→Rel G a b:=by
 cases h with
 |sl ys tip e8=>
  obtain⟨news,h1,h2,h3⟩:=ya (P:=P) hA hr (by simpa [jr] using e8)
  exact⟨news,⟨h1.len,h1.cells,h1.count,h1.one⟩,zo h2,h3⟩
 |os o ver off _ cap _ T cs ho e9 e8=>
  obtain⟨g0,g1,g2,g3,c,g4,g5,g6⟩:=hA.ob o _ ho
  cases hr with
  |os _ _ _ _ b _ hn hv hb=>
   have hb:=hb g1;subst hb
   have c9:∀ (j:Nat) (y:Value),((c.toList.drop off).take (m * sz))[j]? = some y→j<m * sz∧c[off+j]? = some y:=fun j y hy=>by
    rw [List.getElem?_take] at hy;split at hy
    ·rename_i hj
     rw [List.getElem?_drop] at hy;exact⟨hj,by simpa using hy⟩
    ·simp at hy
   have ml:((c.toList.drop off).take (m * sz)).length=m * sz:=by
    simp;omega
   refine⟨(c.toList.drop off).take (m * sz),⟨fun w'=>by simp [Builtin.lenOf],fun w' l7=>?_,ml,fun u hu=>?_⟩,by simp;omega,fun i a b h1 h2=>?_⟩
   ·refine run_firstCells_some w' sz m ⟨(G.ob o).blk,off,none⟩ L cap _ ml fun j y hy=>?_
    obtain⟨hj,hy⟩:=c9 j y hy
    have d6:(G.ob o).blk<w.heap.size:=by
     rcases Nat.lt_or_ge (G.ob o).blk w.heap.size with h'|h'
     ·exact h'
     ·simp [Array.getElem?_eq_none h'] at g4
    have e1:w'.heap[(G.ob o).blk]? = some (.cells c T (0,0)):=by rw [l7.block _ d6];exact g4
    rw [Addr.add_lit];simp [World.cell?,e1,hy]
   ·obtain⟨j,hj⟩:=List.getElem?_of_mem hu
    obtain⟨h1,h2⟩:=c9 j u hj;have hlc:off+j<cs.length:=by omega
    have hx:cs[off+j]? = some cs[off+j]:=List.getElem?_eq_getElem hlc;have hz:((cs.drop off).take (m * sz))[j]? = some cs[off+j]:=by rw [List.getElem?_take_of_lt h1,List.getElem?_drop];exact hx
    exact (g6 _ _ u hx h2).one (List.all_eq_true.1 e8 _ (List.mem_of_getElem? hz))
   ·obtain⟨h3,h4⟩:=c9 i b h2
    rw [List.getElem?_take_of_lt h3,List.getElem?_drop] at h1;exact g6 _ a b h1 h4
theorem qhz (hA:zi B0 w0 G st w) {o ver off:Nat} {T:TypeId} {cs zs:List AV} {news:List Value} {c:Array Value} (ho:st[o]? = some (.cells ver T cs)) (g4:w.heap[(G.ob o).blk]? = some (.cells c T (0,0))) (e9:off+zs.length≤cs.length) (hl:zs.length=news.length)
  (hr:∀ (i:Nat) (a:AV) (b:Value),zs[i]? = some a→news[i]? = some b→Rel G a b):zi B0 w0 G (st.set o (.cells ver T (zr cs off zs))) (w.setRow (G.ob o).blk (c.toList.take off++news++c.toList.drop (off+news.length)).toArray):=by
 obtain⟨_,_,_,_,c',h4,g5,g6⟩:=hA.ob o _ ho;rw [g4] at h4;simp only [Option.some.injEq,Obj.cells.injEq,and_true] at h4;subst h4;refine hA.setRow ho (by simp [zr];omega) ?_
 have e1:∀ (j:Nat) (a:AV) (b:Value),(cs.take off)[j]? = some a→(c.toList.take off)[j]? = some b→Rel G a b:=fun j a b h1 h2=>by
  rw [List.getElem?_take] at h1 h2;split at h1
  ·rename_i hj
   rw [if_pos hj] at h2;exact g6 j a b h1 (by simpa using h2)
  ·simp at h1
 have e2:=yq (G:=G) (cs:=cs.take off) (ds:=zs) (vs:=c.toList.take off) (us:=news) (by simp;omega) e1 hr
 have e3:=yq (G:=G) (cs:=cs.take off++zs) (ds:=cs.drop (off+zs.length)) (vs:=c.toList.take off++news) (us:=c.toList.drop (off+news.length)) (by simp;omega) e2 (fun j a b h1 h2=>by
  rw [List.getElem?_drop] at h1 h2;rw [hl] at h1
  exact g6 _ a b h1 (by simpa using h2))
 unfold zr;intro j a b h1 h2;exact e3 j a b h1 (by simpa using h2)
end
section
variable {E : Env} {rd : Option Nat} {N : Nat} {ops : Array Oper} {K : AS → Prop} {s : AS} {rest : List Oper} {d : Option Tmp} {T : TypeId} {p : String} {af : Array Edge}
theorem qma {x y:Operand} {t u T':TypeId} {sz bytes o ver n cap m:Nat} {cs zs:List AV} {a:AV} (hx:qj N s x = .os o ver 0 n cap) (hy:qj N s y=a) (ho:s.st[o]? = some (.cells ver T' cs)) (l6:SrcA s.st sz a m m zs)
  (ht:E.P.underlying t=some (.slice T')) (hu:E.P.underlying u=some (.slice T')) (hT:w7 E.P T' sz bytes) (i5:n+m≤cap) (nq:cs.length=cap * sz)
  (h:AOps E rd N ops rest K (AS.put ⟨s.t,s.st.set o (.cells ver T' (zr cs (n * sz) zs)),s.df⟩ d (.os o ver 0 (n+m) cap))):AOps E rd N ops (⟨d,.call ⟨.builtin .append,#[x,y],#[t,u]⟩,T,p,af,none⟩::rest) K s:=by
 refine q7 rfl (qy nofun fun B0 w0 G a0 w _ hI=>?_);obtain⟨i,z,hi,hz,rfl,rfl,cm⟩:=hT.ex;obtain⟨news,h1,h2,h3⟩:=qos (P:=E.P) hI.agree l6 (hI.eval_of hy);have hv:=hI.eval_of hx;generalize r7:a0.eval x=v at hv;obtain⟨g0,g1,g2,g3,c,g4,g5,g6⟩:=hI.agree.ob o _ ho;have fg:n * i.size+m * i.size≤cap * i.size:=by rw [← Nat.add_mul];exact Nat.mul_le_mul_right _ i5
 cases hv with
 |os _ _ _ _ b _ hn hv hb=>
  have hb:=hb g1;subst hb;have a8:=qim (ty:=T) ht hu (.inr ⟨_,rfl⟩) hi ⟨h1.len,h1.cells,h1.count,h1.one⟩ (G.ob o).blk n cap c g4 i5 (by rw [h1.count];omega);refine⟨_,_,G,_,_,?_,.refl G,qhz hI.agree ho g4 (by omega) (by rw [h1.count];exact h2) h3,.os o ver 0 (n+m) _ cap hn hv (fun _=>rfl),h⟩;generalize a0.eval = ρ at a8 r7 ⊢;simp [execOp,resolve,invoke,builtin,r7,a8]
theorem qaa {x y:Operand} {t u T':TypeId} {sz bytes o ver off dl dc L m:Nat} {cs zs:List AV} {a:AV} (hx:qj N s x = .os o ver off dl dc) (hy:qj N s y=a) (ho:s.st[o]? = some (.cells ver T' cs)) (l6:SrcA s.st sz a L m zs) (hm:Nat.min L dl=m)
  (ht:E.P.underlying t=some (.slice T')) (hT:w7 E.P T' sz bytes) (e9:off+m * sz≤cs.length)
  (h:AOps E rd N ops rest K (AS.put ⟨s.t,s.st.set o (.cells ver T' (zr cs off zs)),s.df⟩ d (Iv (m:Nat)))):AOps E rd N ops (⟨d,.call ⟨.builtin .copy,#[x,y],#[t,u]⟩,T,p,af,none⟩::rest) K s:=by
 refine q7 rfl (qy nofun fun B0 w0 G a0 w _ hI=>?_);obtain⟨i,z,hi,hz,rfl,rfl,cm⟩:=hT.ex;obtain⟨news,h1,h2,h3⟩:=qos (P:=E.P) hI.agree l6 (hI.eval_of hy);have hv:=hI.eval_of hx;generalize r7:a0.eval x=v at hv;obtain⟨g0,g1,g2,g3,c,g4,g5,g6⟩:=hI.agree.ob o _ ho
 cases hv with
 |os _ _ _ _ b _ hn hv hb=>
  have hb:=hb g1;subst hb;have d8:=run_storeCells_at E.P (G.ob o).blk off T' news 0 c w g4 (by rw [h1.count];omega) h1.one;simp only [Nat.add_zero] at d8;have cg:=h1.cells w (Below.refl _ _);refine⟨_,_,G,_,_,?_,.refl G,qhz hI.agree ho g4 (by omega) (by rw [h1.count];exact h2) h3,.v _,h⟩;have hl:=h1.len w;generalize a0.eval = ρ at r7 d8 cg hl ⊢;simp [execOp,resolve,invoke,builtin,r7,Builtin.copy_,run_underlying ht,sizeOf,typeInfo,hi,hl,hm,cg,d8,goInt]
def q49 (P:Program) (T:TypeId):Bool:=
 match P.info? T with
 |some i=>(match i.zero with
  |some z=>z.cells.toList.all Value.oneCell'
  |none=>false)
 |none=>false
theorem qyg {x:Operand} {t T':TypeId} {sz bytes o ver off n cap:Nat} {cs:List AV} (hx:qj N s x = .os o ver off n cap) (ho:s.st[o]? = some (.cells ver T' cs))
  (ht:E.P.underlying t=some (.slice T')) (hT:w7 E.P T' sz bytes) (hz1:q49 E.P T'=true) (e9:off+n * sz≤cs.length)
  (h:∀ zs:List AV,zs.length=n * sz→AOps E rd N ops rest K (AS.put ⟨s.t,s.st.set o (.cells ver T' (zr cs off zs)),s.df⟩ d (.v undef))):AOps E rd N ops (⟨d,.call ⟨.builtin .clear,#[x],#[t]⟩,T,p,af,none⟩::rest) K s:=by
 refine q7 rfl (qy nofun fun B0 w0 G a0 w _ hI=>?_);obtain⟨i,z,hi,hz,rfl,rfl,cm⟩:=hT.ex;have hv:=hI.eval_of hx;generalize r7:a0.eval x=v at hv;obtain⟨g0,g1,g2,g3,c,g4,g5,g6⟩:=hI.agree.ob o _ ho
 cases hv with
 |os _ _ _ _ b _ hn hv hb=>
  have hb:=hb g1;subst hb;by_cases h0:n=0
  ·subst h0
   have g8:s.st.set o (.cells ver T' (zr cs off []))=s.st:=by
    have e:zr cs off []=cs:=by simp [zr]
    rw [e];apply List.ext_getElem?;intro k;by_cases e:o=k
    ·subst e;rw [List.getElem?_set_self (lt_of_getElem? ho)];exact ho.symm
    ·rw [List.getElem?_set_ne e]
   have hh:=h [] (by simp);refine⟨_,_,G,_,_,?_,.refl G,hI.agree,.v _,by rw [g8] at hh;exact hh⟩;generalize a0.eval = ρ at r7 ⊢;simp [execOp,resolve,invoke,builtin,r7,Builtin.clear_,run_underlying ht,undef]
  ·have gp:(Builtin.zeroCells z.cells n).toList.length=n * i.size:=by simp [size_zeroCells,cm]
   have hz1:∀ u∈(Builtin.zeroCells z.cells n).toList,u.oneCell'=true:=fun u hu=>by
    unfold q49 at hz1;rw [hi] at hz1;simp only [hz] at hz1;refine List.all_eq_true.1 hz1 u ?_;simp only [Builtin.zeroCells,Array.toList_map,List.mem_map,Array.toList_range,List.mem_range] at hu;obtain⟨q,hq,rfl⟩:=hu
    have hp:q % z.cells.size<z.cells.size:=Nat.mod_lt _ (by
     rcases Nat.eq_zero_or_pos z.cells.size with h|h
     ·rw [h] at hq;omega
     ·exact h)
    rw [getElem!_pos z.cells _ hp];simp
   have d8:=run_storeCells_at E.P (G.ob o).blk off T' (Builtin.zeroCells z.cells n).toList 0 c w g4 (by rw [gp];omega) hz1;simp only [Nat.add_zero] at d8;have hh:=h ((Builtin.zeroCells z.cells n).toList.map AV.v) (by simpa using gp);refine⟨_,_,G,_,_,?_,.refl G,qhz (news:=(Builtin.zeroCells z.cells n).toList) hI.agree ho g4 (by rw [List.length_map,gp];exact e9) (by simp) (fun j a b h1 h2=>?_),.v _,hh⟩
   ·generalize a0.eval = ρ at r7 d8 ⊢
    obtain⟨n',rfl⟩:∃ n',n=n'+1:=⟨n - 1,by omega⟩;simp [execOp,resolve,invoke,builtin,r7,Builtin.clear_,run_underlying ht,zeroValue,typeInfo,hi,hz,d8,undef]
   ·rw [List.getElem?_map,h2] at h1
    simp at h1;subst h1;exact .v _
theorem qtc {P:Program} {t e:TypeId} {sz:Nat} {agg:Bool} (hu:P.underlying t=some (.slice e)) (ht:tyOf P e=some (sz,agg)) (a:Option Addr) (len cap:Nat) (lo hi mx:Option Value) (i j m:Nat) (w:World)
  (s8:match lo with|none=>i=0|some v=>∃ k,v = .int k (i:Int)) (p5:match hi with|none=>j=len∧mx=none|some v=>∃ k,v = .int k (j:Int)) (pz:match mx with|none=>m=cap|some v=>∃ k,v = .int k (m:Int)) (h1:i≤j) (h2:j≤m) (h3:m≤cap) :
  (Instr.slice t (.slice a len cap) lo hi mx).run P w = .ok (.slice (if m=i then a else a.map (·.add (i * sz))) (j - i) (m - i)) w:=by
 have hs:=(kw ht w).1
 cases lo with
 |none=>
  simp only at s8;subst s8
  cases hi with
  |none=>
   obtain⟨rfl,rfl⟩:=p5;simp only at pz;subst pz
   simp [Instr.slice,run_underlying hu,Instr.sliceBounds,hs]
  |some v=>
   obtain⟨k,rfl⟩:=p5
   cases mx with
   |none=>
    simp only at pz;subst pz
    simp [Instr.slice,run_underlying hu,Instr.sliceBounds,Instr.sliceBound,asIntOf,hs,h2]
   |some u=>
    obtain⟨k',rfl⟩:=pz
    simp [Instr.slice,run_underlying hu,Instr.sliceBounds,Instr.sliceBound,asIntOf,hs,h2,h3]
 |some u=>
  obtain⟨k',rfl⟩:=s8
  cases hi with
  |none=>
   obtain⟨rfl,rfl⟩:=p5;simp only at pz;subst pz
   simp [Instr.slice,run_underlying hu,Instr.sliceBounds,Instr.sliceBound,asIntOf,hs,h1]
  |some v=>
   obtain⟨k,rfl⟩:=p5
   cases mx with
   |none=>
    simp only at pz;subst pz
    simp [Instr.slice,run_underlying hu,Instr.sliceBounds,Instr.sliceBound,asIntOf,hs,h1,h2]
   |some u=>
    obtain⟨k'',rfl⟩:=pz;simp [Instr.slice,run_underlying hu,Instr.sliceBounds,Instr.sliceBound,asIntOf,hs,h1,h2,h3]
theorem zu {x:Operand} {t e:TypeId} {lo hi mx:Option Operand} {sz:Nat} {agg:Bool} {o ver off len cap i j m:Nat} (hx:qj N s x = .os o ver off len cap) (hu:E.P.underlying t=some (.slice e)) (ht:tyOf E.P e=some (sz,agg))
  (s8:match lo with|none=>i=0|some y=>∃ k,qj N s y = .v (.int k (i:Int))) (p5:match hi with|none=>j=len∧mx=none|some y=>∃ k,qj N s y = .v (.int k (j:Int))) (pz:match mx with|none=>m=cap|some y=>∃ k,qj N s y = .v (.int k (m:Int))) (h1:i≤j) (h2:j≤m) (h3:m≤cap)
  (h:AOps E rd N ops rest K (s.put d (.os o ver (if m=i then off else off+i * sz) (j - i) (m - i)))):AOps E rd N ops (⟨d,.slice t x lo hi mx,T,p,af,none⟩::rest) K s:=by
 refine q7 rfl (qy nofun fun B0 w0 G a w _ hI=>?_);have he:=hI.eval_of hx;generalize hv:a.eval x=v at he
 cases he with
 |os _ _ _ _ b _ hn hvr hb=>
  have a8:=qtc hu ht (some ⟨b,off,none⟩) len cap (lo.map a.eval) (hi.map a.eval) (mx.map a.eval) i j m w (by
   cases lo with
   |none=>exact s8
   |some y=>obtain⟨k,hy⟩:=s8;exact⟨k,hI.evalv hy⟩) (by
   cases hi with
   |none=>obtain⟨q1,q2⟩:=p5;subst q2;exact⟨q1,rfl⟩
   |some y=>obtain⟨k,hy⟩:=p5;exact⟨k,hI.evalv hy⟩) (by
   cases mx with
   |none=>exact pz
   |some y=>obtain⟨k,hy⟩:=pz;exact⟨k,hI.evalv hy⟩) h1 h2 h3
  refine⟨.slice (if m=i then some ⟨b,off,none⟩ else (some ⟨b,off,none⟩:Option Addr).map (·.add (i * sz))) (j - i) (m - i),w,G,_,s.st,?_,.refl G,hI.agree,?_,h⟩
  ·generalize a.eval = ρ at hv a8 ⊢
   simp only [execOp,hv];simp [Instr.sliceAt,run_underlying hu,a8]
  ·have m8:Addr.add ⟨b,off,none⟩ (i * sz)=⟨b,off+i * sz,none⟩:=Addr.add_lit ..
   by_cases hmi:m=i
   ·rw [if_pos hmi,if_pos hmi]
    exact .os o ver off (j - i) b (m - i) hn hvr hb
   ·rw [if_neg hmi,if_neg hmi,Option.map_some,m8]
    exact .os o ver (off+i * sz) (j - i) b (m - i) hn hvr hb
theorem qd7 {x y:Operand} {t u T':TypeId} {sz bytes:Nat} {ys:List AV} (hx:∀ (G:Gh) (v:Value),Rel G (qj N s x) v→∃ base,v = .slice base 0 0) (hy:∀ (G:Gh) (v:Value),Rel G (qj N s y) v→Rel G (.sl sz ys none) v)
  (ht:E.P.underlying t=some (.slice T')) (hu:E.P.underlying u=some (.slice T')) (hT:w7 E.P T' sz bytes) (e8:jr (flat ys)=true) (h0:ys≠[]) (l9:ys.length≤maxLen) (hb:ys.length * bytes≤140737488355328)
  (h:∀ cap pad,(flat ys++pad).length=(cap+1) * sz→(∀ y∈ys,y.cells.length=sz)→ys.length≤cap+1→cap+1≤maxLen→AOps E rd N ops rest K (AS.put ⟨s.t,s.st++[.cells 0 T' (flat ys++pad)],s.df⟩ d (.os s.st.length 0 0 ys.length (cap+1)))):AOps E rd N ops (⟨d,.call ⟨.builtin .append,#[x,y],#[t,u]⟩,T,p,af,none⟩::rest) K s:=by
 refine q7 rfl (qy nofun fun B0 w0 G a0 w _ hI=>?_);obtain⟨i,z,hi,hz,rfl,rfl,cm⟩:=hT.ex;obtain⟨news,h1,h2,h3⟩:=ya (P:=E.P) hI.agree (hy _ _ (hI.eval y)) (by simpa [jr] using e8);obtain⟨base,hv⟩:=hx _ _ (hI.eval x);have c8:0<ys.length:=List.length_pos_iff.2 h0
 have d9:(Builtin.firstCells i.size 0 (.slice base 0 0)).run E.P w.drew = .ok ([]:List Value).toArray w.drew:=by
  cases base with
  |none=>simp [run_firstCells_none]
  |some a=>exact run_firstCells_some w.drew i.size 0 a 0 0 [] (by simp) (by simp)
 have a8:=qc5 (ty:=T) ht hu (.inr ⟨_,rfl⟩) hi hz h1 base 0 0 [] d9 (by omega) (by simp only [maxLen] at l9;omega) (by simp only [Nat.zero_add];rw [nextslicecap_zero (by omega)];omega);simp only [Nat.zero_add] at a8;have cw:=grownCap_ge w ys.length 0 T';have d5:=grownCap_le_maxLen w ys.length 0 T' l9;generalize grownCap w ys.length 0 T'=cap at a8 cw d5;obtain⟨cap,rfl⟩:∃ c,cap=c+1:=⟨cap - 1,by omega⟩;generalize hzc:Builtin.zeroCells z.cells (cap+1 - ys.length)=zc at a8;have gp:zc.size=(cap+1 - ys.length) * i.size:=by rw [← hzc,size_zeroCells,cm]
 have mc:(flat ys).length=ys.length * i.size:=zo h2;have m6:Below w.heap.size w w.drew:=⟨rfl,rfl,rfl,Nat.le_refl _,fun _ _=>rfl⟩
 have hr:=yq (G:=G) (cs:=flat ys) (ds:=zc.toList.map AV.v) (vs:=news) (us:=zc.toList) (by rw [mc,h1.count]) h3 (fun j a b h1 h2=>by
  rw [List.getElem?_map,h2] at h1;simp at h1;subst h1
  exact .v _)
 have hA:=(hI.agree.fresh m6).newCells T' (([]:List Value).toArray++news.toArray++zc) (flat ys++zc.toList.map AV.v) (by simp [mc,h1.count]) (fun j a b q1 q2=>hr j a b q1 (by rw [← q2];simp [← Array.getElem?_toList]));have hn:=hI.agree.n;refine⟨_,_,_,_,_,?_,G.le_new _ _ _ _,hA,.os _ _ _ _ _ _ (by simp [Gh.new,hn]) (Nat.zero_le _) (fun _=>by simp [Gh.new,hn];rfl),h cap (zc.toList.map AV.v) ?_ h2 cw d5⟩
 ·generalize a0.eval = ρ at a8 hv ⊢
  simp [execOp,resolve,invoke,builtin,hv,a8]
 ·have h1:zc.toList.length=(cap+1 - ys.length) * i.size:=by rw [← gp];simp
  rw [List.length_append,mc,List.length_map,h1,← Nat.add_mul];congr 1;omega
theorem qmb {x y:Operand} {t u T':TypeId} {sz bytes o:Nat} {xs ys:List AV} {a:AV} {ob:AObj} (hx:qj N s x=a) (hy:∀ (G:Gh) (v:Value),Rel G (qj N s y) v→Rel G (.sl sz ys none) v) (hV:Vec sz T' o xs a ob) (ho:s.st[o]? = some ob)
  (ht:E.P.underlying t=some (.slice T')) (hu:E.P.underlying u=some (.slice T')) (hT:w7 E.P T' sz bytes) (e8:jr (flat ys)=true) (l9:xs.length+ys.length≤maxLen) (hb:(xs.length+ys.length) * bytes≤140737488355328)
  (h:∀ a' ob',Vec sz T' o (xs++ys) a' ob'→AOps E rd N ops rest K (AS.put ⟨s.t,s.st.set o ob',s.df⟩ d a')):AOps E rd N ops (⟨d,.call ⟨.builtin .append,#[x,y],#[t,u]⟩,T,p,af,none⟩::rest) K s:=by
 refine q7 rfl (qy nofun fun B0 w0 G a0 w _ hI=>?_);obtain⟨news,h1,h2,h3⟩:=ya (P:=E.P) hI.agree (hy _ _ (hI.eval y)) (by simpa [jr] using e8);obtain⟨v',w',G',a',ob',e1,e2,e3,e4,e5⟩:=qgx (ty:=T) hI.agree ht hu (.inr ⟨_,rfl⟩) hT hV ho (hI.eval_of hx) h1 h2 h3 l9 hb;refine⟨v',w',G',_,_,?_,e2,e3,e4,h a' ob' e5⟩;generalize a0.eval = ρ at e1;simp [execOp,resolve,invoke,builtin,e1]
theorem qmq {x y:Operand} {t u T':TypeId} {sz bytes:Nat} {c:AV} (hx:qj N s x=c) (hc:∀ G v,Rel G c v→∃ b n cp,v = .slice b n cp∧n≤cp) (hy:∀ (G:Gh) (v:Value),Rel G (qj N s y) v→Rel G (.sl sz [] none) v)
  (ht:E.P.underlying t=some (.slice T')) (hu:E.P.underlying u=some (.slice T')) (hT:w7 E.P T' sz bytes) (h:AOps E rd N ops rest K (s.put d c)):AOps E rd N ops (⟨d,.call ⟨.builtin .append,#[x,y],#[t,u]⟩,T,p,af,none⟩::rest) K s:=by
 refine q7 rfl (qy nofun fun B0 w0 G a0 w _ hI=>?_);obtain⟨i,z,hi,hz,rfl,rfl,cm⟩:=hT.ex;obtain⟨news,h1,h2,h3⟩:=ya (P:=E.P) hI.agree (hy _ _ (hI.eval y)) (by simp [flat]);have fj:news=[]:=List.eq_nil_of_length_eq_zero (by simpa using h1.count);subst fj;have hv:=hI.eval_of hx;obtain⟨b,n,cp,hv2,d5⟩:=hc _ _ hv;have a8:=qbz (ty:=T) ht hu (.inr ⟨_,rfl⟩) hi h1 b n cp d5;refine⟨_,w,G,c,s.st,?_,.refl G,hI.agree,hv,h⟩;rw [hv2];generalize a0.eval = ρ at a8 hv2;simp [execOp,resolve,invoke,builtin,hv2,a8]
end
end Go.Av
namespace Go.Av
open Go Go.RowKit
theorem qqt {P:Program} (w:World) (tS tR e:TypeId) (ht:P.underlying tS=some (.slice e)) (size:Nat) (hz:∀ w,(Go.sizeOf e).run P w = .ok size w)
  (a b:Addr) (la ca lb cb:Nat) (b8:a.block≠b.block) (tA tB:TypeId) (kA kB:Nat)
  (hsa:w.shape? a.block=some (tA,kA)) (hsb:w.shape? b.block=some (tB,kB)) (hkA:kA≠0)
  (hfb:w.frozen? b=false) (sm:w.frozen? { block:=b.block,off:=kB }=false) :
  (Extern.SlicesOverlaps.overlaps #[tS,tS] #[tR] #[.slice (some a) la ca,.slice (some b) lb cb]).run P w = .ok (.bool false) w:=by
 have hnb:(a.block != b.block)=true:=by simpa using b8
 have hnb':(a.block == b.block)=false:=by simpa using b8
 change Sem.run P (α:=Value) (do
  let some t := (#[tS, tS] : Array TypeId)[0]? | stuck "slices.overlaps: no parameter types"
  let .slice elem ← underlying t | stuck "slices.overlaps: slice type expected"
  let size ← sizeOf elem
  match (some a:Option Addr),(some b:Option Addr) with
  |some a,some b=>
   if la=0∨lb=0∨size=0 then pure (Value.bool false)
   else if a.block != b.block && (← frozen a) && (← frozen b) then unsupported .addressObserved
   else do
    if a.block != b.block then do
     noView a;noView b
     if ← mayBeOne a b then return Value.bool ((← choose (.extern "sameAddr.stringBytes" 2)) == 1)
    pure (Value.bool (a.block == b.block && a.off<b.off+lb * size && b.off<a.off+la * size))
  | _,_=>pure (Value.bool false)) w=_
 by_cases h0:la=0∨lb=0∨size=0
 ·simp [run_underlying ht,hz,h0]
 ·cases kA with
  |zero=>exact absurd rfl hkA
  |succ kA=>
   cases hA:w.frozen? a <;> cases bp:w.frozen? { block:=a.block,off:=kA+1 } <;>
    simp [run_underlying ht,hz,h0,hnb,hnb',frozen,noView,viewAt,mayBeOne,stringish,shape,Sem.run,hsa,hsb,hfb,sm,hA,bp]
section
variable {E : Env} {rd : Option Nat} {N : Nat} {ops : Array Oper} {K : AS → Prop} {s : AS} {rest : List Oper} {d : Option Tmp} {T : TypeId} {p : String} {af : Array Edge}
theorem qrb {x:Operand} {t0 e:TypeId} {ts:Array TypeId} {o ver off len cap:Nat} (hx:qj N s x = .os o ver off len cap) (ht:ts[0]? = some t0) (hu:E.P.underlying t0=some (.slice e))
  (h:AOps E rd N ops rest K (s.put d (Iv cap))):AOps E rd N ops (⟨d,.call ⟨.builtin .cap,#[x],ts⟩,T,p,af,none⟩::rest) K s:=by
 refine q7 rfl (qy nofun fun B0 w0 G a w _ hI=>?_);have he:=hI.eval_of hx;generalize hv:a.eval x=v at he
 cases he with
 |os _ _ _ _ b _ hn hvr hb=>
  refine⟨_,w,G,_,s.st,?_,.refl G,hI.agree,.v _,h⟩;generalize a.eval = ρ at hv ⊢;simp [execOp,resolve,invoke,builtin,hv,Builtin.cap_,ht,run_underlying hu,goInt]
theorem qpu {x y:Operand} {t u T':TypeId} {kn:IntKind} {sz bytes o ver n cap k:Nat} {cs:List AV} (hx:qj N s x = .os o ver 0 n cap) (hy:qj N s y=Iv (k:Nat)) (ho:s.st[o]? = some (.cells ver T' cs))
  (ht:E.P.underlying t=some (.slice T')) (hu:E.P.underlying u=some (.int kn)) (hT:w7 E.P T' sz bytes) (i8:cap<n+k) (hk:0<k) (f8:0<sz) (e9:n * sz≤cs.length) (l9:n+k≤maxLen) (hb:(n+k) * bytes≤140737488355328)
  (h:∀ cap' (zs:List AV),zs.length=(cap' - n) * sz→n+k≤cap'→cap'≤maxLen→AOps E rd N ops rest K (AS.put ⟨s.t,s.st++[.cells 0 T' (cs.take (n * sz)++zs)],s.df⟩ d (.os s.st.length 0 0 (n+k) cap'))):AOps E rd N ops (⟨d,.call ⟨.builtin .append,#[x,y],#[t,u]⟩,T,p,af,none⟩::rest) K s:=by
 refine q7 rfl (qy nofun fun B0 w0 G a0 w _ hI=>?_);obtain⟨i,z,hi,hz,rfl,rfl,cm⟩:=hT.ex;have hyv:=hI.evalv hy;have hv:=hI.eval_of hx;generalize r7:a0.eval x=v at hv;obtain⟨g0,g1,g2,g3,c,g4,g5,g6⟩:=hI.agree.ob o _ ho
 cases hv with
 |os _ _ _ _ b _ hn hv hbk=>
  have hbk:=hbk g1;subst hbk
  have d9:(Builtin.firstCells i.size n (.slice (some ⟨(G.ob o).blk,0,none⟩) n cap)).run E.P w.drew = .ok (c.toList.take (n * i.size)).toArray w.drew:=by
   refine run_firstCells_some w.drew i.size n ⟨(G.ob o).blk,0,none⟩ n cap _ (by simp;omega) fun j y hy=>?_;have e1':w.drew.heap[(G.ob o).blk]? = some (.cells c T' (0,0)):=g4;rw [Addr.add_lit];rw [List.getElem?_take] at hy;split at hy
   ·simp only [Array.getElem?_toList] at hy
    simp [World.cell?,e1',hy]
   ·simp at hy
  have hkb:k * i.bytes≤(n+k) * i.bytes:=Nat.mul_le_mul_right _ (by omega);have a8:=Lib.run_append_grow_zeros w t u T T' i z .i64 kn ht hu hi hz (some ⟨(G.ob o).blk,0,none⟩) n cap _ d9 k hk f8 i8 (by simp only [maxLen] at l9;omega) (by omega) (growslice_fits (by omega) hb);have cw:=grownCap_ge w (n+k) cap T';have d5:=grownCap_le_maxLen w (n+k) cap T' l9;generalize grownCap w (n+k) cap T'=cap' at a8 cw d5;have gp:(Builtin.zeroCells z.cells k).size=k * i.size:=by rw [size_zeroCells,cm]
  have hzl2:(Builtin.zeroCells z.cells (cap' - (n+k))).size=(cap' - (n+k)) * i.size:=by rw [size_zeroCells,cm]
  generalize Builtin.zeroCells z.cells k=zc at a8 gp;generalize Builtin.zeroCells z.cells (cap' - (n+k))=zd at a8 hzl2;have m6:Below w.heap.size w w.drew:=⟨rfl,rfl,rfl,Nat.le_refl _,fun _ _=>rfl⟩
  have e1:∀ (j:Nat) (a:AV) (b:Value),(cs.take (n * i.size))[j]? = some a→(c.toList.take (n * i.size))[j]? = some b→Rel G a b:=fun j a b h1 h2=>by
   rw [List.getElem?_take] at h1 h2;split at h1
   ·rename_i hj
    rw [if_pos hj] at h2;exact g6 j a b h1 (by simpa using h2)
   ·simp at h1
  have hr:=yq (G:=G) (cs:=cs.take (n * i.size)) (ds:=(zc.toList++zd.toList).map AV.v) (vs:=c.toList.take (n * i.size)) (us:=zc.toList++zd.toList) (by simp;omega) e1 (fun j a b h1 h2=>by
   rw [List.getElem?_map,h2] at h1;simp at h1;subst h1
   exact .v _)
  have hA:=(hI.agree.fresh m6).newCells T' ((c.toList.take (n * i.size)).toArray++zc++zd) (cs.take (n * i.size)++(zc.toList++zd.toList).map AV.v) (by simp;omega) (fun j a b q1 q2=>hr j a b q1 (by rw [← q2];simp [← Array.getElem?_toList]));have hn:=hI.agree.n;refine⟨_,_,_,_,_,?_,G.le_new _ _ _ _,hA,.os _ _ _ _ _ _ (by simp [Gh.new,hn]) (Nat.zero_le _) (fun _=>by simp [Gh.new,hn];rfl),h cap' _ ?_ cw d5⟩
  ·generalize a0.eval = ρ at a8 r7 hyv ⊢
   simp [execOp,resolve,invoke,builtin,r7,hyv,a8]
  ·have h1:zc.toList.length=k * i.size:=by rw [← gp];simp
   have h2:zd.toList.length=(cap' - (n+k)) * i.size:=by rw [← hzl2];simp
   rw [List.length_map,List.length_append,h1,h2,← Nat.add_mul];congr 1;omega
theorem qw8 {f:FuncId} {x y:Operand} {ts:Array TypeId} {T':TypeId} {sz o ver off n c:Nat} {xs cs:List AV} {tip:Option Nat} (hx:qj N s x = .sl sz xs tip) (hy:qj N s y = .os o ver off n c) (ho:s.st[o]? = some (.cells ver T' cs)) (gn:flat xs≠[])
  (a8:∀ (w:World) (a b:Addr) (la ca lb cb:Nat) (tA tB:TypeId) (kA kB:Nat),a.block≠b.block→w.shape? a.block=some (tA,kA)→w.shape? b.block=some (tB,kB)→kA≠0→w.frozen? b=false→w.frozen? { block:=b.block,off:=kB }=false→(callFunc f #[.slice (some a) la ca,.slice (some b) lb cb]).run E.P w = .ok (.value (.bool false)) w)
  (h:AOps E rd N ops rest K (s.put d (Bv false))):AOps E rd N ops (⟨d,.call ⟨.value (.func f),#[x,y],ts⟩,T,p,af,none⟩::rest) K s:=by
 refine q7 rfl (qy nofun fun B0 w0 G a w _ hI=>?_);have h1:=hI.eval_of hx;have h2:=hI.eval_of hy;generalize hvx:a.eval x=v at h1;generalize hvy:a.eval y=u at h2;obtain⟨g0,g1,g2,g3,cc,g4,g5,g6⟩:=hI.agree.ob o _ ho
 cases h1 with
 |sl0=>exact absurd rfl gn
 |sl _ _ _ b off2 cap pub hp hw c8 hr hto ng=>
  cases h2 with
  |os _ _ _ _ b2 _ hn hv hb=>
   have hb:=hb g1;subst hb;obtain⟨c2,T2,fz,q1,q2⟩:=hI.agree.pub b pub hp;have b8:b≠(G.ob o).blk:=fun e=>by rw [e,g3] at hp;simp at hp
   have nc:c2.size≠0:=fun e=>by
    have h0:0<(flat xs).length:=List.length_pos_iff.2 gn;have h3:pub[off2]? = some pub[off2]:=List.getElem?_eq_getElem (by omega);have:=q2 off2 _ h3;rw [Array.getElem?_eq_none (by omega)] at this;simp at this
   have hq:=a8 w ⟨b,off2,none⟩ ⟨(G.ob o).blk,off,none⟩ xs.length cap n c T2 T' c2.size cc.size b8 (by simp [World.shape?,q1]) (by simp [World.shape?,g4]) nc (by simp [World.frozen?,g4]) (by simp [World.frozen?,g4]);refine⟨_,w,G,_,s.st,?_,.refl G,hI.agree,.v _,h⟩;have he:a.eval (.func f) = .func (.func f) #[] #[]:=rfl;generalize a.eval = ρ at he hvx hvy ⊢;simp [execOp,resolve,Deferred.ofValue,he,invoke,hvx,hvy,hq]
theorem qym {x y:Operand} {t e:TypeId} {sz:Nat} {agg:Bool} {c:AV} (hx:qj N s x=c) (hc:∀ (G:Gh) (v:Value),Rel G c v→∃ base,v = .slice base 0 0) (hu:E.P.underlying t=some (.slice e)) (ht:tyOf E.P e=some (sz,agg)) (hy:∃ k,qj N s y = .v (.int k 0))
  (h:AOps E rd N ops rest K (s.put d c)):AOps E rd N ops (⟨d,.slice t x (some y) none none,T,p,af,none⟩::rest) K s:=by
 refine q7 rfl (qy nofun fun B0 w0 G a w _ hI=>?_);have he:=hI.eval_of hx;obtain⟨base,hv⟩:=hc _ _ he;have a8:=qtc hu ht base 0 0 (some (a.eval y)) none none 0 0 0 w (by obtain⟨k,hy⟩:=hy;exact⟨k,hI.evalv hy⟩) ⟨rfl,rfl⟩ rfl (Nat.le_refl _) (Nat.le_refl _) (Nat.le_refl _);refine⟨.slice base 0 0,w,G,c,s.st,?_,.refl G,hI.agree,by rw [← hv];exact he,h⟩;generalize a.eval = ρ at hv a8 ⊢;simp only [execOp,hv];simp [Instr.sliceAt,run_underlying hu,a8]
theorem qrg {l:List Oper} (L:List (Nat×AV)) (st':List AObj) (df':List Nat) (h:HasL s.t L) (d8:s.st=st') (g7:s.df=df') (k:∀ t,AOps E rd N ops l K ⟨puts t L,st',df'⟩):AOps E rd N ops l K s:=by
 have:=k s.t;rw [qhx h,← d8,← g7] at this;exact this
end
end Go.Av
namespace Go.Av
open Go Go.RowKit
def qeu (o:Oper):Bool:=match o.op with
 | .defer _=>false
 | _=>true
theorem qsr {o:Oper} (h:qeu o=true):∀ c,o.op≠.defer c:=fun c e=>by
 unfold qeu at h;rw [e] at h;simp at h
theorem zbg {P:Program} {ops:Array Oper} {Q:Exit→Act→World→Prop} {l i:Nat} {K:Act→World→Prop} {a:Act} {w:World} (u6:∀ o,ops[i]? = some o→qeu o=true) (h:wpOpIn (fw none) 0 P ops Q i K a w):wpOpIn (fw (some l)) 0 P ops Q i K a w:=by
 unfold wpOpIn at *
 cases ho:ops[i]? with
 |none=>simp only [ho] at h ⊢;exact h
 |some o=>
  simp only [ho] at h ⊢;split
  ·rename_i hw
   rw [if_pos hw] at h;unfold Oper.wpIn at *;rw [qef (rd:=none) (qsr (u6 o ho))] at h;rw [qef (rd:=some l) (qsr (u6 o ho))];exact h
  ·rename_i hw
   rw [if_neg hw] at h;exact h
theorem qts {P:Program} {ops:Array Oper} {Q:Exit→Act→World→Prop} {l:Nat} {md:Region.Mode} (u6:ops.all qeu=true):∀ (fuel:Nat) (listed:Array Bool) (a:Act) (w:World),wpAnyIn (fw none) 0 P md ops Q fuel listed a w→wpAnyIn (fw (some l)) 0 P md ops Q fuel listed a w
 | 0,_,_,_,h=>h
 |fuel+1,listed,a,w,h=>⟨h.1,fun i hi=>zbg (fun o ho=>by
   rw [Array.all_eq_true] at u6;obtain⟨h1,h2⟩:=Array.getElem?_eq_some_iff.1 ho;rw [← h2]
   exact u6 i h1) (wpOpIn_mono (fun a w=>qts u6 fuel _ a w) (h.2 i hi))⟩
theorem q5o {E:Env} {rd:Option Nat} {N:Nat} {ops:Array Oper} {s:AS} {id:Nat} {Q:Exit→AS→Prop} {n:Nat} (hm:E.P.follows .mixedOrders=true) (hd:ops.all qeu=true) (hn:ops.size=n) (h:AZ E N ops n (Array.replicate n false) (Q .normal) s):AWp E rd N (.region id ops true) Q s:=by
 cases rd with
 |none=>exact qiy hm hn h
 |some l=>
  subst hn;refine⟨fun B0 w0 G a w hL hI=>?_⟩;have hBl:Below w.heap.size w { w with drawn:=w.drawn+1 }:=⟨rfl,rfl,rfl,Nat.le_refl _,fun _ _=>rfl⟩;have lz:Inv B0 w0 N G s a { w with drawn:=w.drawn+1 }:=⟨hI.agree.fresh hBl,hI.defers,hI.size,hI.tmps⟩;have:=h.run B0 w0 G a _ hL lz (fun a' w'=>∃ (G':Gh) (s':AS),G.le G'∧Inv B0 w0 N G' s' a' w'∧Q .normal s') fun G' s' a' w' hG m5 hk=>⟨G',s',hG,m5,hk⟩;refine wpIn_mono (wpIn_region_any hm (qts hd _ _ _ _ this)) fun e a' w' hq=>?_
  cases e with
  |normal=>exact hq
  | _=>exact hq.elim
def qcn (o:Oper):List Nat:=(o.after.toList.filter fun e=>Region.binds .any e).map (·.on)
def addL (L:Nat→Bool) (i:Nat):Nat→Bool:=fun k=>Nat.beq k i ||L k
def qgj:Nat→List Oper→Bool
 | _,[]=>true
 |i,o::r=>(qcn o).all (fun j=>Nat.blt j i) && qgj (i+1) r
def qmp (E:Env) (N:Nat) (ops:Array Oper) (J:(Nat→Bool)→AS→Prop):Nat→List Oper→Prop
 | _,[]=>True
 |i,o::r=>(∀ L s,L i=false→(∀ j,(qcn o).contains j=true→L j=true)→J L s→AOps E none N ops [o] (J (addL L i)) s)∧qmp E N ops J (i+1) r
theorem qth {E:Env} {N:Nat} {ops:Array Oper} {J:(Nat→Bool)→AS→Prop}:∀ {l:List Oper} {i0 k:Nat} {o:Oper},qmp E N ops J i0 l→l[k]? = some o →
  ∀ L s,L (i0+k)=false→(∀ j,(qcn o).contains j=true→L j=true)→J L s→AOps E none N ops [o] (J (addL L (i0+k))) s
 | [],_,_,_,_,h=>by simp at h
 |o'::r,i0,0,o,hs,h=>by
  simp only [List.getElem?_cons_zero,Option.some.injEq] at h;subst h
  exact hs.1
 |o'::r,i0,k+1,o,hs,h=>by
  have:=qth hs.2 (by simpa using h);rw [show i0+1+k=i0+(k+1) by omega] at this;exact this
theorem qrw:∀ {l:List Oper} {i0 k:Nat} {o:Oper},qgj i0 l=true→l[k]? = some o→∀ j∈qcn o,j<i0+k
 | [],_,_,_,_,h=>by simp at h
 |o'::r,i0,0,o,hs,h=>by
  simp only [List.getElem?_cons_zero,Option.some.injEq] at h;subst h;simp only [qgj,Bool.and_eq_true] at hs;intro j hj;have:=List.all_eq_true.1 hs.1 j hj
  simpa [Nat.blt_eq] using this
 |o'::r,i0,k+1,o,hs,h=>by
  simp only [qgj,Bool.and_eq_true] at hs;have:=qrw hs.2 (show r[k]? = some o by simpa using h);intro j hj;have:=this j hj;omega
def lof (listed:Array Bool):Nat→Bool:=fun k=>listed.getD k false
theorem zgg {listed:Array Bool} {i:Nat} (hi:i<listed.size):lof (listed.setIfInBounds i true)=addL (lof listed) i:=by
 funext k;unfold lof addL;by_cases h:k=i
 ·subst h
  simp [Array.getD,hi]
 ·have hb:Nat.beq k i=false:=jb h
  rw [hb,Bool.false_or];simp only [Array.getD_eq_getD_getElem?,Array.getElem?_setIfInBounds];rw [if_neg (fun e=>h e.symm)]
theorem qvf:∀ {l:List Bool} {i:Nat},l[i]? = some false→(l.set i true).count false+1=l.count false
 | [],_,h=>by simp at h
 |b::l,0,h=>by
  simp only [List.getElem?_cons_zero,Option.some.injEq] at h;subst h
  simp
 |b::l,i+1,h=>by
  have:=qvf (l:=l) (i:=i) (by simpa using h);rw [List.set_cons_succ,List.count_cons,List.count_cons];omega
theorem qnw {l:List Oper} {listed:Array Bool} {i:Nat}:i∈Region.ready .any l.toArray listed↔listed.getD i true=false∧∃ o,l[i]? = some o∧∀ j∈qcn o,lof listed j=true:=by
 unfold Region.ready;simp only [List.mem_filter,List.mem_range,Bool.and_eq_true,Bool.not_eq_true',List.size_toArray,List.getElem?_toArray];constructor
 ·rintro⟨h1,h2,h3⟩
  refine⟨h2,l[i],List.getElem?_eq_getElem h1,fun j hj=>?_⟩;rw [List.getElem?_eq_getElem h1] at h3;simp only [Option.map_some,Option.getD_some] at h3;unfold qcn at hj;obtain⟨e,he,rfl⟩:=List.mem_map.1 hj;obtain⟨he1,he2⟩:=List.mem_filter.1 he;have:=Array.all_eq_true'.1 h3 e (by simpa using he1);rw [he2] at this
  simpa [lof] using this
 ·rintro⟨h2,o,ho,h3⟩
  refine⟨lt_of_getElem? ho,h2,?_⟩;rw [ho];simp only [Option.map_some,Option.getD_some];rw [Array.all_eq_true'];intro e he
  cases hb:Region.binds .any e with
  |false=>rfl
  |true=>
   have:=h3 e.on (by
    unfold qcn
    exact List.mem_map.2 ⟨e,List.mem_filter.2 ⟨by simpa using he,hb⟩,rfl⟩)
   simpa [lof] using this
theorem qx8 {P:Nat→Prop}:∀ {l:List Nat},(∀ i∈l,P i)→qxl P l
 | [],_=>trivial
 |i::r,h=>⟨h i (by simp),qx8 fun j hj=>h j (by simp [hj])⟩
theorem AOps.mono' {E:Env} {rd:Option Nat} {N:Nat} {ops:Array Oper} {K K':AS→Prop} {s:AS} {l:List Oper} (h:AOps E rd N ops l K' s) (hk:∀ s,K' s→K s):AOps E rd N ops l K s:=
 ⟨fun B0 w0 G a w hL hI Q hQ=>h.run B0 w0 G a w hL hI Q fun G' s' a' w' hG m5 hK=>hQ G' s' a' w' hG m5 (hk _ hK)⟩
theorem az_J {E:Env} {N:Nat} {l:List Oper} {J:(Nat→Bool)→AS→Prop} {K:AS→Prop} (hd:qgj 0 l=true) (hs:qmp E N l.toArray J 0 l) (dx:∀ L s,(∀ i,i<l.length→L i=true)→J L s→K s) :
  ∀ (fuel:Nat) (listed:Array Bool) (s:AS),listed.size=l.length→listed.toList.count false≤fuel→J (lof listed) s→AZ E N l.toArray fuel listed K s:=by
 intro fuel
 induction fuel with
 |zero=>
  intro listed s f8 hc hJ
  have m9:∀ i,i<l.length→lof listed i=true:=fun i hi=>by
   have h0:listed.toList.count false=0:=by omega
   have rn:i<listed.size:=by omega
   have s8:lof listed i=listed[i]:=by simp [lof,rn]
   rw [s8]
   cases hb:listed[i] with
   |true=>rfl
   |false=>exact absurd (by rw [← hb];simp) (List.count_eq_zero.1 h0)
  have hr:Region.ready .any l.toArray listed=[]:=by
   rw [List.eq_nil_iff_forall_not_mem];intro i hi;obtain⟨h1,o,ho,_⟩:=qnw.1 hi;have rn:=lt_of_getElem? ho;have:=m9 i rn;unfold lof at this;have bv:i<listed.size:=by omega
   simp only [Array.getD,bv,dite_true] at this h1;rw [this] at h1;simp at h1
  exact qce hr (dx _ s m9 hJ)
 |succ fuel ih=>
  intro listed s f8 hc hJ;by_cases hr:Region.ready .any l.toArray listed=[]
  ·refine qce hr (dx _ s (fun i=>?_) hJ)
   induction i using Nat.strongRecOn with
   | _ i ihi=>
    intro hi
    cases hb:lof listed i with
    |true=>rfl
    |false=>
     exfalso
     have hm:i∈Region.ready .any l.toArray listed:=by
      refine qnw.2 ⟨?_,l[i],List.getElem?_eq_getElem hi,fun j hj=>?_⟩
      ·have bv:i<listed.size:=by omega
       unfold lof at hb;simp only [Array.getD,bv,dite_true] at hb ⊢;exact hb
      ·have:=qrw hd (List.getElem?_eq_getElem hi) j hj
       exact ihi j (by omega) (by omega)
     rw [hr] at hm;simp at hm
  ·refine wl _ rfl ?_ (qx8 fun i hi=>?_)
   ·cases h:Region.ready .any l.toArray listed with
    |nil=>exact absurd h hr
    |cons a r=>rfl
   ·obtain⟨h1,o,ho,h3⟩:=qnw.1 hi
    have mg:=lt_of_getElem? ho;have bv:i<listed.size:=by omega
    refine⟨o,by simpa using ho,?_⟩
    have hl:lof listed i=false:=by
     unfold lof;simp only [Array.getD,bv,dite_true] at h1 ⊢;exact h1
    have:=qth hs ho (lof listed) s (by rw [Nat.zero_add];exact hl) (fun j hj=>h3 j (by simpa using hj)) hJ;rw [Nat.zero_add] at this;refine this.mono' fun s' hJ'=>ih _ s' (by simpa using f8) ?_ (by rw [zgg bv];exact hJ')
    have hg:listed.toList[i]? = some false:=by
     have:listed[i]=false:=by
      simp only [Array.getD,bv,dite_true] at h1;exact h1
     simp [bv,this]
    have:=qvf hg;rw [Array.toList_setIfInBounds];omega
theorem q79 {E:Env} {rd:Option Nat} {N:Nat} {s:AS} {id:Nat} {l:List Oper} {Q:Exit→AS→Prop} (hm:E.P.follows .mixedOrders=true) (u6:l.toArray.all qeu=true) (hd:qgj 0 l=true) (J:(Nat→Bool)→AS→Prop)
  (h0:J (fun _=>false) s) (dx:∀ L s,(∀ i,i<l.length→L i=true)→J L s→Q .normal s) (hs:qmp E N l.toArray J 0 l):AWp E rd N (.region id l.toArray true) Q s:=by
 refine q5o hm u6 (n:=l.length) (by simp) (az_J hd hs dx _ _ _ (by simp) ?_ ?_)
 ·simp only [Array.toList_replicate,List.count_replicate]
  split <;> omega
 ·have:lof (Array.replicate l.length false)=fun _=>false:=by
   funext k;unfold lof;simp only [Array.getD_eq_getD_getElem?,Array.getElem?_replicate];split <;> rfl
  rw [this];exact h0
inductive SV where
 |a (x:AV)
 |i (n:Int)
 |s (l:List UInt8)
 |tt
 |ff
 |b (c:Bool)
 |p (q:Prop) (h:Decidable q)
 |bx (k off:Nat)
 |tp (k:Nat)
 |ag (cs:List SV)
 |tu (cs:List SV)
 |fn (f:Fn) (xs ys:List SV)
 |ifc (t:TypeId) (x:SV)
def bxAt:AV→Nat→AV
 | .bx o v _,off=>.bx o v off
 | .os o v _ _ _,off=>.bx o v off
 | _,off=>.bx 0 0 off
def tpAt (x:AV):AV:=bif x.one then x else Bv false
mutual
def SV.ev (ρ : Nat→AV):SV→AV
 | .a x=>x
 | .i n=>Iv n
 | .s l=>Sv l
 | .tt=>Bv true
 | .ff=>Bv false
 | .b c=>Bv c
 | .p q h=>Bv (@decide q h)
 | .bx k off=>bxAt (ρ k) off
 | .tp k=>tpAt (ρ k)
 | .ag cs=>.ag (SV.evs ρ cs)
 | .tu cs=>.tu (SV.evs ρ cs)
 | .fn f xs ys=>.fn f (SV.evs ρ xs) (SV.evs ρ ys)
 | .ifc t x=>.ifc t (SV.ev ρ x)
def SV.evs (ρ : Nat→AV):List SV→List AV
 | []=>[]
 |x::r=>SV.ev ρ x::SV.evs ρ r
end
mutual
def SV.all (f:Nat→Bool):SV→Bool
 | .bx k _=>f k
 | .tp k=>f k
 | .ag cs=>SV.alls f cs
 | .tu cs=>SV.alls f cs
 | .fn _ xs ys=>SV.alls f xs && SV.alls f ys
 | .ifc _ x=>SV.all f x
 | _=>true
def SV.alls (f:Nat→Bool):List SV→Bool
 | []=>true
 |x::r=>SV.all f x && SV.alls f r
end
theorem km (ρ : Nat→AV):∀ l:List SV,SV.evs ρ l=l.map (SV.ev ρ)
 | []=>rfl
 |x::r=>by rw [SV.evs,km ρ r];rfl
mutual
theorem qbi {f:Nat→Bool} {ρ ρ':Nat→AV} (h:∀ k,f k=true→ρ' k = ρ k):∀ v:SV,v.all f=true→v.ev ρ'=v.ev ρ
 | .a _,_=>rfl
 | .i _,_=>rfl
 | .s _,_=>rfl
 | .tt,_=>rfl
 | .ff,_=>rfl
 | .b _,_=>rfl
 | .p _ _,_=>rfl
 | .bx k off,hv=>by simp only [SV.all] at hv;simp only [SV.ev,h k hv]
 | .tp k,hv=>by simp only [SV.all] at hv;simp only [SV.ev,h k hv]
 | .ag cs,hv=>by simp only [SV.all] at hv;simp only [SV.ev,yv h cs hv]
 | .tu cs,hv=>by simp only [SV.all] at hv;simp only [SV.ev,yv h cs hv]
 | .fn f xs ys,hv=>by simp only [SV.all,Bool.and_eq_true] at hv;simp only [SV.ev,yv h xs hv.1,yv h ys hv.2]
 | .ifc t x,hv=>by simp only [SV.all] at hv;simp only [SV.ev,qbi h x hv]
theorem yv {f:Nat→Bool} {ρ ρ':Nat→AV} (h:∀ k,f k=true→ρ' k = ρ k):∀ l:List SV,SV.alls f l=true→SV.evs ρ' l=SV.evs ρ l
 | [],_=>rfl
 |x::r,hv=>by simp only [SV.alls,Bool.and_eq_true] at hv;simp only [SV.evs,qbi h x hv.1,yv h r hv.2]
end
mutual
theorem all_mono {f g:Nat→Bool} (h:∀ k,f k=true→g k=true):∀ v:SV,v.all f=true→v.all g=true
 | .a _,_=>rfl
 | .i _,_=>rfl
 | .s _,_=>rfl
 | .tt,_=>rfl
 | .ff,_=>rfl
 | .b _,_=>rfl
 | .p _ _,_=>rfl
 | .bx k off,hv=>h k hv
 | .tp k,hv=>h k hv
 | .ag cs,hv=>qcq h cs hv
 | .tu cs,hv=>qcq h cs hv
 | .fn f xs ys,hv=>by simp only [SV.all,Bool.and_eq_true] at hv ⊢;exact⟨qcq h xs hv.1,qcq h ys hv.2⟩
 | .ifc t x,hv=>all_mono h x hv
theorem qcq {f g:Nat→Bool} (h:∀ k,f k=true→g k=true):∀ l:List SV,SV.alls f l=true→SV.alls g l=true
 | [],_=>rfl
 |x::r,hv=>by simp only [SV.alls,Bool.and_eq_true] at hv ⊢;exact⟨all_mono h x hv.1,qcq h r hv.2⟩
end
inductive SR where
 |cells (T:TypeId) (cs:List SV)
 |tip (sz:Nat) (T:TypeId) (xs:List AV)
 |own (sz:Nat) (T:TypeId) (xs:List AV)
 |obj (P:AObj→AV→Prop)
  |rows (T:TypeId) (ys:List AV) (cs:List SV)
def SR.all (f:Nat→Bool):SR→Bool
 | .cells _ cs=>SV.alls f cs
 | .tip _ _ _=>true
 | .own _ _ _=>true
 | .obj _=>true
 | .rows _ _ cs=>SV.alls f cs
structure qcd (c:AV):Prop where
 val:∀ (G:Gh) (v:Value),Rel G c v→∃ base,v = .slice base 0 0
 one:c.one=true
 len:lenA c=some 0
 bx:∀ (o ver off len cap:Nat),c≠.os o ver off len (cap+1)
 nb:∀ (o ver off:Nat),c≠.bx o ver off
 ns:∀ (sz:Nat) (xs:List AV) (t:Nat),c≠.sl sz xs (some t)
theorem qqm (base:Option Addr):qcd (.v (.slice base 0 0)):=⟨fun G v h=>by cases h;exact⟨base,rfl⟩,rfl,rfl,by simp,by simp,by simp⟩
theorem qnn (o v f:Nat):qcd (.os o v f 0 0):=⟨fun G v h=>by cases h;exact⟨_,rfl⟩,rfl,rfl,by simp,by simp,by simp⟩
def OwnS (S:List AObj) (sz:Nat) (T:TypeId) (xs:List AV) (c:AV):Prop:=
 (xs=[]∧qcd c)∨∃ o ver cap pad,c = .os o ver 0 xs.length (cap+1)∧S[o]? = some (.cells ver T (flat xs++pad))∧(flat xs++pad).length=(cap+1) * sz∧(∀ x∈xs,x.cells.length=sz)∧xs.length≤cap+1∧cap+1≤maxLen
def zl:AV→Option Nat
 | .bx o _ _=>some o
 | .sl _ _ (some t)=>some t
 | .os o _ _ _ (_+1)=>some o
 | .mp o=>some o
 | _=>none
def SR.ok (ρ : Nat→AV) (S:List AObj) (c:AV):SR→Prop
 | .cells T cs=>∃ o v,c = .bx o v 0∧S[o]? = some (.cells v T (SV.evs ρ cs))∧v=0
 | .tip sz T xs=>TipO 0 S sz T xs c
 | .own sz T xs=>OwnS S sz T xs c
 | .obj P=>∃ o x,zl c=some o∧S[o]? = some x∧x≠.dfr∧P x c
 | .rows T ys cs=>OwnS S 1 T (ys++SV.evs ρ cs) c
theorem SR.all_mono {f g:Nat→Bool} (h:∀ k,f k=true→g k=true):∀ r:SR,r.all f=true→r.all g=true
 | .cells _ cs,hr=>qcq h cs hr
 | .tip _ _ _,_=>rfl
 | .own _ _ _,_=>rfl
 | .obj _,_=>rfl
 | .rows _ _ cs,hr=>qcq h cs hr
theorem qcd.nm {o:Nat} (h:qcd (.mp o)):False:=by
 obtain⟨_,e⟩:=h.val ⟨fun _=>none,fun _=>⟨0,0,0,true⟩,o+1⟩ (.map (some 0)) (.mp _ _ (Nat.lt_succ_self _) rfl rfl)
 cases e
theorem OwnS.loc {S:List AObj} {sz:Nat} {T:TypeId} {xs:List AV} {c:AV} (h:OwnS S sz T xs c) {o:Nat} (ho:zl c=some o):∃ ver cap pad,c = .os o ver 0 xs.length (cap+1)∧S[o]? = some (.cells ver T (flat xs++pad))∧(flat xs++pad).length=(cap+1) * sz∧(∀ x∈xs,x.cells.length=sz)∧xs.length≤cap+1∧cap+1≤maxLen:=by
 rcases h with⟨_,h⟩ | ⟨o',ver,cap,pad,rfl,h⟩
 ·unfold zl at ho
  split at ho
  ·exact absurd rfl (h.nb _ _ _)
  ·exact absurd rfl (h.ns _ _ _)
  ·exact absurd rfl (h.bx _ _ _ _ _)
  ·exact h.nm.elim
  ·simp at ho
 ·simp only [zl,Option.some.injEq] at ho
  subst ho;exact⟨ver,cap,pad,rfl,h⟩
theorem qcd.loc {c:AV} (h:qcd c):zl c=none:=by
 unfold zl;split
 ·exact absurd rfl (h.nb _ _ _)
 ·exact absurd rfl (h.ns _ _ _)
 ·exact absurd rfl (h.bx _ _ _ _ _)
 ·exact h.nm.elim
 ·rfl
theorem qcd.wk {c:AV} (h:qcd c) (sz:Nat):∀ (G:Gh) (v:Value),Rel G c v→Rel G (.sl sz [] none) v:=fun G v hv=>by
 obtain⟨base,rfl⟩:=h.val G v hv;exact .sl0 sz none _ _ (by simp)
theorem OwnS.of {S S':List AObj} {sz:Nat} {T:TypeId} {xs:List AV} {c:AV} (h:OwnS S sz T xs c) (hs:∀ o,zl c=some o→S'[o]? = S[o]?):OwnS S' sz T xs c:=by
 rcases h with h | ⟨o,ver,cap,pad,rfl,h1,h2⟩
 ·exact .inl h
 ·exact .inr ⟨o,ver,cap,pad,rfl,(hs o rfl).trans h1,h2⟩
theorem SR.ok_lt {ρ : Nat→AV} {S:List AObj} {c:AV} {r:SR} (h:r.ok ρ S c) {o:Nat} (ho:zl c=some o):o<S.length:=by
 cases r with
 |cells T cs=>
  obtain⟨o',v,rfl,h,_⟩:=h;simp only [zl,Option.some.injEq] at ho;subst ho
  exact lt_of_getElem? h
 |tip sz T xs=>
  rcases h with (⟨_,rfl⟩ | ⟨t,rfl,ht,_⟩) | ⟨_,o',v,f,rfl⟩
  ·simp [zl] at ho
  ·simp only [zl,Option.some.injEq] at ho
   subst ho;exact lt_of_getElem? ht
  ·simp [zl] at ho
 |own sz T xs=>
  obtain⟨_,_,_,_,h,_⟩:=OwnS.loc h ho
  exact lt_of_getElem? h
 |obj P=>
  obtain⟨o',x,h1,h2,_⟩:=h;rw [h1,Option.some.injEq] at ho;subst ho
  exact lt_of_getElem? h2
 |rows T ys cs=>
  obtain⟨_,_,_,_,h,_⟩:=OwnS.loc h ho;exact lt_of_getElem? h
theorem SR.ok_of {ρ ρ':Nat→AV} {S S':List AObj} {c:AV} {r:SR} {f:Nat→Bool} (hf:r.all f=true) (hr:∀ k,f k=true→ρ' k = ρ k) (h:r.ok ρ S c) (hs:∀ o,zl c=some o→S'[o]? = S[o]?):r.ok ρ' S' c:=by
 cases r with
 |cells T cs=>
  obtain⟨o,v,rfl,h,h0⟩:=h;refine⟨o,v,rfl,?_,h0⟩;rw [hs o rfl,yv hr cs hf]
  exact h
 |tip sz T xs=>
  rcases h with (⟨h1,h2⟩ | ⟨t,rfl,ht,h0⟩)|h
  ·exact .inl (.inl ⟨h1,h2⟩)
  ·exact .inl (.inr ⟨t,rfl,(hs t rfl).trans ht,h0⟩)
  ·exact .inr h
 |own sz T xs=>exact OwnS.of h hs
 |obj P=>
  obtain⟨o,x,h1,h2,h3⟩:=h
  exact⟨o,x,h1,(hs o h1).trans h2,h3⟩
 |rows T ys cs=>
  have h2:=OwnS.of (S':=S') (show OwnS S 1 T (ys++SV.evs ρ cs) c from h) hs
  show OwnS S' 1 T (ys++SV.evs ρ' cs) c
  rw [yv hr cs hf];exact h2
structure SatF (S:List AObj) (ρ : Nat→AV) (H:Nat→Option SR):Prop where
 ok:∀ k r,H k=some r→r.ok ρ S (ρ k)
 sep:∀ k k' r r',k≠k'→H k=some r→H k'=some r'→∀ o,zl (ρ k)=some o→zl (ρ k')≠some o
def lkS {α : Type}:List (Nat×α)→Nat→Option α
 | [],_=>none
 |(i,v)::r,k=>bif Nat.beq i k then some v else lkS r k
theorem qcy {α : Type}:∀ (l r:List (Nat×α)) (k:Nat),lkS (l++r) k=match lkS l k with|some v=>some v|none=>lkS r k
 | [],_,_=>rfl
 |(i,v)::l,r,k=>by
  simp only [List.cons_append,lkS]
  cases Nat.beq i k
  ·simp only [cond_false];exact qcy l r k
  ·rfl
def hpF (hp:List (Nat×Option SR)) (k:Nat):Option SR:=match lkS hp k with|some r=>r|none=>none
def chF (ch:List (Nat×Option SR)) (H:Nat→Option SR) (k:Nat):Option SR:=match lkS ch k with|some r=>r|none=>H k
theorem q4a (ch hp:List (Nat×Option SR)):hpF (ch++hp)=chF ch (hpF hp):=by
 funext k;unfold hpF chF;rw [qcy]
 cases lkS ch k <;> rfl
def memN (ks:List Nat) (k:Nat):Bool:=ks.any (Nat.beq k)
def resF (ks:List Nat) (H:Nat→Option SR) (k:Nat):Option SR:=bif memN ks k then H k else none
theorem vq {ks:List Nat} {H:Nat→Option SR} {k:Nat} {r:SR} (h:resF ks H k=some r):memN ks k=true∧H k=some r:=by
 unfold resF at h
 cases hm:memN ks k with
 |true=>rw [hm] at h;exact⟨rfl,h⟩
 |false=>rw [hm] at h;simp at h
theorem SatF.res {S:List AObj} {ρ : Nat→AV} {H:Nat→Option SR} (h:SatF S ρ H) (ks:List Nat):SatF S ρ (resF ks H):=
 ⟨fun k r hk=>h.ok k r (vq hk).2,fun k k' r r' b8 h1 h2=>h.sep k k' r r' b8 (vq h1).2 (vq h2).2⟩
structure Ef where
 val:SV
 ks:List Nat
 ch:List (Nat×Option SR)
 nx:Nat
def Ef.wf (e:Ef) (nx:Nat):Bool:=Nat.ble nx e.nx && e.val.all (fun k=>Nat.blt k e.nx) && e.ch.all (fun p=>Nat.blt p.1 e.nx && (memN e.ks p.1 ||Nat.ble nx p.1) && match p.2 with|some r=>r.all (fun k=>Nat.blt k e.nx)|none=>true)
def SlOk (ρ : Nat→AV) (t:Nat→AV) (sl:List (Nat×SV)):Prop:=∀ d v,lkS sl d=some v→t d=v.ev ρ
structure qg5 (ρ : Nat→AV) (S:List AObj) (nx:Nat) (H:Nat→Option SR) (e:Ef) (ρ':Nat→AV) (S':List AObj):Prop where
 old:∀ k,(k<nx∨e.nx≤k)→ρ' k = ρ k
 sat:SatF S' ρ' (chF e.ch (resF e.ks H))
 len:S.length≤S'.length
 fr:∀ j,j<S.length→(∀ k r,resF e.ks H k=some r→zl (ρ k)≠some j)→S'[j]? = S[j]?
 loc:∀ k r,chF e.ch (resF e.ks H) k=some r→∀ o,zl (ρ' k)=some o→S.length≤o∨∃ k' r',resF e.ks H k'=some r'∧zl (ρ k')=some o
def Loc (E:Env) (N:Nat) (ops:Array Oper) (o:Oper) (nx:Nat) (sl:List (Nat×SV)) (H:Nat→Option SR) (e:Ef):Prop:=
 ∀ (df:List Nat) (rd:Option Nat) (K:AS→Prop) (rest:List Oper) (ρ : Nat→AV) (t:Nat→AV) (S:List AObj),SlOk ρ t sl→SatF S ρ (resF e.ks H) →
  (∀ ρ' S',qg5 ρ S nx H e ρ' S'→AOps E rd N ops rest K (AS.put ⟨t,S',df⟩ o.dst (e.val.ev ρ')))→AOps E rd N ops (o::rest) K ⟨t,S,df⟩
structure Conf where
 sl:List (Nat×SV)
 hp:List (Nat×Option SR)
 nx:Nat
def Conf.app (C:Conf) (d:Option Tmp) (e:Ef):Conf:=⟨match d with|some d=>(d,e.val)::C.sl|none=>C.sl,e.ch++C.hp,e.nx⟩
structure SatR (S0:List AObj) (F:Nat→Prop) (C:Conf) (ρ : Nat→AV) (t:Nat→AV) (S:List AObj):Prop where
 sl:SlOk ρ t C.sl
 hp:SatF S ρ (hpF C.hp)
 own:∀ k r,hpF C.hp k=some r→∀ o,zl (ρ k)=some o→S0.length≤o∨F o
 low:∀ j,j<S0.length→¬ F j→S[j]? = S0[j]?
 len:S0.length≤S.length
 wsl:∀ d v,lkS C.sl d=some v→v.all (fun k=>Nat.blt k C.nx)=true
 whp:∀ k r,hpF C.hp k=some r→k<C.nx∧r.all (fun k=>Nat.blt k C.nx)=true
structure Bs where
 S0:List AObj
 F:Nat→Prop
 ρ0:Nat→AV
 n0:Nat
 dz:Prop
structure Frm (B:Bs) (C:Conf) (ρ : Nat→AV) (df:List Nat) (S:List AObj):Prop where
 dm:∀ d∈df,S[d]? = some .dfr∧B.S0.length≤d
 nd:df.Nodup
 rig:∀ k,k<B.n0→ρ k=B.ρ0 k
 le:B.n0≤C.nx
 dz:B.dz→df=[]
def SatC (B:Bs) (C:Conf) (s:AS):Prop:=∃ ρ,Frm B C ρ s.df s.st∧SatR B.S0 B.F C ρ s.t s.st
theorem SR.ok_dfr {ρ : Nat→AV} {S:List AObj} {c:AV} {r:SR} (h:r.ok ρ S c) {o:Nat} (ho:zl c=some o):S[o]?≠some .dfr:=by
 cases r with
 |cells T cs=>
  obtain⟨o',v,rfl,h,_⟩:=h;simp only [zl,Option.some.injEq] at ho;subst ho;rw [h]
  simp
 |tip sz T xs=>
  rcases h with (⟨_,rfl⟩ | ⟨t,rfl,ht,_⟩) | ⟨_,o',v,f,rfl⟩
  ·simp [zl] at ho
  ·simp only [zl,Option.some.injEq] at ho
   subst ho;rw [ht];simp
  ·simp [zl] at ho
 |own sz T xs=>
  obtain⟨_,_,_,_,h,_⟩:=OwnS.loc h ho;rw [h]
  simp
 |obj P=>
  obtain⟨o',x,h1,h2,h3,_⟩:=h;rw [h1,Option.some.injEq] at ho;subst ho;rw [h2]
  simpa using h3
 |rows T ys cs=>
  obtain⟨_,_,_,_,h,_⟩:=OwnS.loc h ho;rw [h];simp
theorem kz {a b:Nat} (h:Nat.blt a b=true):a<b:=by simpa [Nat.blt_eq] using h
theorem qa1 {a b:Nat} (h:a<b):Nat.blt a b=true:=by simpa [Nat.blt_eq] using h
theorem qf1 {e:Ef} {nx:Nat} (h:e.wf nx=true):nx≤e.nx∧e.val.all (fun k=>Nat.blt k e.nx)=true∧∀ p∈e.ch,p.1<e.nx∧(memN e.ks p.1=true∨nx≤p.1)∧∀ r,p.2=some r→r.all (fun k=>Nat.blt k e.nx)=true:=by
 simp only [Ef.wf,Bool.and_eq_true] at h;refine⟨Nat.le_of_ble_eq_true h.1.1,h.1.2,fun p hp=>?_⟩;have:=List.all_eq_true.1 h.2 p hp;simp only [Bool.and_eq_true,Bool.or_eq_true] at this;refine⟨kz this.1.1,this.1.2.imp_right Nat.le_of_ble_eq_true,fun r hr=>?_⟩;have h3:=this.2;rw [hr] at h3;exact h3
theorem va {α : Type}:∀ {l:List (Nat×α)} {k:Nat} {v : α},lkS l k=some v→(k,v)∈l
 | [],_,_,h=>by simp [lkS] at h
 |(i,x)::r,k,v,h=>by
  unfold lkS at h
  cases hb:Nat.beq i k with
  |true=>
   rw [hb] at h;simp only [cond_true,Option.some.injEq] at h;have:=Nat.eq_of_beq_eq_true hb;subst this;subst h
   simp
  |false=>
   rw [hb] at h;exact List.mem_cons_of_mem _ (va h)
theorem SatR.stepG {S0:List AObj} {F:Nat→Prop} {C:Conf} {ρ ρ' t:Nat→AV} {S S':List AObj} {e:Ef} {d:Option Tmp} {nx NX:Nat} (h:SatR S0 F C ρ t S) (hN:C.nx≤NX) (w2:e.val.all (fun k=>Nat.blt k NX)=true) (w3:∀ p∈e.ch,p.1<NX∧∀ r,p.2=some r→r.all (fun k=>Nat.blt k NX)=true)
  (a1:∀ d v,lkS C.sl d=some v→v.all (fun k=>Nat.blt k nx ||Nat.ble e.nx k)=true) (a2:∀ k r,hpF C.hp k=some r→(k<nx∨e.nx≤k)∧r.all (fun k=>Nat.blt k nx ||Nat.ble e.nx k)=true) (hp:qg5 ρ S nx (hpF C.hp) e ρ' S') :
  SatR S0 F ⟨match d with|some d=>(d,e.val)::C.sl|none=>C.sl,e.ch++C.hp,NX⟩ ρ' (AS.put ⟨t,S',[]⟩ d (e.val.ev ρ')).t S':=by
 have hav:∀ k,(Nat.blt k nx ||Nat.ble e.nx k)=true→ρ' k = ρ k:=fun k hk=>by
  rcases Bool.or_eq_true_iff.1 hk with hk|hk
  ·exact hp.old k (.inl (kz hk))
  ·exact hp.old k (.inr (Nat.le_of_ble_eq_true hk))
 have fb:∀ d v,lkS C.sl d=some v→v.ev ρ'=v.ev ρ:=fun d v hd=>qbi hav v (a1 d v hd);have hres:∀ k r,hpF C.hp k=some r→memN e.ks k=true→resF e.ks (hpF C.hp) k=some r:=fun k r h1 h2=>by unfold resF;rw [h2];exact h1
 -- what lies at a name behind the operation
 have key:∀ k r,hpF (e.ch++C.hp) k=some r→chF e.ch (resF e.ks (hpF C.hp)) k=some r∨(memN e.ks k=false∧lkS e.ch k=none∧hpF C.hp k=some r):=fun k r hk=>by
  rw [q4a] at hk;unfold chF at hk ⊢
  cases hl:lkS e.ch k with
  |some x=>rw [hl] at hk;exact .inl hk
  |none=>
   rw [hl] at hk;simp only at hk ⊢
   cases hm:memN e.ks k with
   |true=>exact .inl (hres k r hk hm)
   |false=>exact .inr ⟨rfl,trivial,hk⟩
 have d8:∀ k r,memN e.ks k=false→hpF C.hp k=some r→∀ o,zl (ρ k)=some o→S'[o]? = S[o]?∧o<S.length:=fun k r hm hk o ho=>by
  have d6:=SR.ok_lt (h.hp.ok k r hk) ho;refine⟨hp.fr o d6 fun k' r' m0=>?_,d6⟩;obtain⟨hm',m0⟩:=vq m0;have b8:k≠k':=fun e=>by subst e;rw [hm] at hm';simp at hm'
  exact h.hp.sep k k' r r' b8 hk m0 o ho
 have hρ : ∀ k r,hpF C.hp k=some r→ρ' k = ρ k:=fun k r hk=>hp.old k (a2 k r hk).1
 have sepx:∀ k k' r r',memN e.ks k=false→hpF C.hp k=some r→chF e.ch (resF e.ks (hpF C.hp)) k'=some r'→∀ o,zl (ρ' k)=some o→zl (ρ' k')≠some o:=fun k k' r r' hm hk m0 o ho d7=>by
  rw [hρ k r hk] at ho;obtain⟨_,d6⟩:=d8 k r hm hk o ho;rcases hp.loc k' r' m0 o d7 with h1 | ⟨k2,r2,h2,h3⟩
  ·omega
  ·obtain⟨tb,cx⟩:=vq h2
   have b8:k≠k2:=fun e=>by subst e;rw [hm] at tb;simp at tb
   exact h.hp.sep k k2 r r2 b8 hk cx o ho h3
 refine⟨?_,⟨?_,?_⟩,?_,?_,Nat.le_trans h.len hp.len,?_,?_⟩
 ·cases d with
  |none=>exact fun x v hx=>(h.sl x v hx).trans (fb x v hx).symm
  |some d=>
   intro x v hx;simp only [lkS] at hx;by_cases hd:x=d
   ·subst hd
    have hb:Nat.beq x x=true:=by simp
    rw [hb] at hx;simp only [cond_true,Option.some.injEq] at hx;subst hx;exact wi _ _ _
   ·rw [jb (fun e=>hd e.symm)] at hx
    simp only [cond_false] at hx;exact (yh _ _ _ _ hd).trans ((h.sl x v hx).trans (fb x v hx).symm)
 ·intro k r hk
  rcases key k r hk with h1 | ⟨hm,_,h1⟩
  ·exact hp.sat.ok k r h1
  ·rw [hρ k r h1]
   exact SR.ok_of (a2 k r h1).2 hav (h.hp.ok k r h1) fun o ho=>(d8 k r hm h1 o ho).1
 ·intro k k' r r' b8 hk m0 o ho
  rcases key k r hk with h1 | ⟨hm,_,h1⟩
  ·rcases key k' r' m0 with h2 | ⟨tb,_,h2⟩
   ·exact hp.sat.sep k k' r r' b8 h1 h2 o ho
   ·exact fun d7=>sepx k' k r' r tb h2 h1 o d7 ho
  ·rcases key k' r' m0 with h2 | ⟨tb,_,h2⟩
   ·exact sepx k k' r r' hm h1 h2 o ho
   ·rw [hρ k r h1] at ho
    rw [hρ k' r' h2];exact h.hp.sep k k' r r' b8 h1 h2 o ho
 ·intro k r hk o ho
  rcases key k r hk with h1 | ⟨hm,_,h1⟩
  ·rcases hp.loc k r h1 o ho with h2 | ⟨k',r',h2,h3⟩
   ·exact .inl (Nat.le_trans h.len h2)
   ·exact h.own k' r' (vq h2).2 o h3
  ·rw [hρ k r h1] at ho
   exact h.own k r h1 o ho
 ·intro j hj hF
  refine (hp.fr j (Nat.lt_of_lt_of_le hj h.len) fun k r hk ho=>?_).trans (h.low j hj hF);rcases h.own k r (vq hk).2 j ho with h1|h1
  ·omega
  ·exact hF h1
 ·intro x v hx
  have d9:lkS C.sl x=some v→v.all (fun k=>Nat.blt k NX)=true:=fun hx=>all_mono (fun k hk=>qa1 (by have:=kz hk;omega)) v (h.wsl x v hx)
  cases d with
  |none=>exact d9 hx
  |some d=>
   simp only [lkS] at hx
   cases hb:Nat.beq d x with
   |true=>
    rw [hb] at hx;simp only [cond_true,Option.some.injEq] at hx;subst hx
    exact w2
   |false=>
    rw [hb] at hx;exact d9 hx
 ·intro k r hk
  have d9:hpF C.hp k=some r→k<NX∧r.all (fun k=>Nat.blt k NX)=true:=fun hk=>⟨by have:=(h.whp k r hk).1;omega,SR.all_mono (fun k hk=>qa1 (by have:=kz hk;omega)) r (h.whp k r hk).2⟩;rcases key k r hk with h1 | ⟨_,_,h1⟩
  ·unfold chF at h1
   cases hl:lkS e.ch k with
   |some x=>
    rw [hl] at h1;simp only at h1;obtain⟨h2,h3⟩:=w3 _ (va hl)
    exact⟨h2,h3 r h1⟩
   |none=>
    rw [hl] at h1;exact d9 (vq h1).2
  ·exact d9 h1
theorem SatR.step {S0:List AObj} {F:Nat→Prop} {C:Conf} {ρ ρ' t:Nat→AV} {S S':List AObj} {e:Ef} {d:Option Tmp} (h:SatR S0 F C ρ t S) (hw:e.wf C.nx=true) (hp:qg5 ρ S C.nx (hpF C.hp) e ρ' S') :
  SatR S0 F (C.app d e) ρ' (AS.put ⟨t,S',[]⟩ d (e.val.ev ρ')).t S':=by
 obtain⟨w1,w2,w3⟩:=qf1 hw;exact h.stepG w1 w2 (fun p hp=>⟨(w3 p hp).1,(w3 p hp).2.2⟩) (fun d v hd=>all_mono (fun k hk=>by rw [hk];rfl) v (h.wsl d v hd)) (fun k r hk=>⟨.inl (h.whp k r hk).1,SR.all_mono (fun k hk=>by rw [hk];rfl) r (h.whp k r hk).2⟩) hp
theorem Frm.nx {B:Bs} {C C':Conf} {ρ : Nat→AV} {S:List AObj} {df:List Nat} (h:Frm B C ρ df S) (hn:B.n0≤C'.nx):Frm B C' ρ df S:=⟨h.dm,h.nd,h.rig,hn,h.dz⟩
theorem Frm.stepG {B:Bs} {C C':Conf} {ρ ρ':Nat→AV} {S S':List AObj} {df:List Nat} {e:Ef} {nx:Nat} {H:Nat→Option SR} (h:Frm B C ρ df S) (hS:SatF S ρ H) (hp:qg5 ρ S nx H e ρ' S') (hn:B.n0≤nx) (rp:B.n0≤C'.nx):Frm B C' ρ' df S':=by
 refine⟨fun x hx=>?_,h.nd,fun k hk=>?_,rp,h.dz⟩
 ·have hm:=h.dm x hx
  refine⟨?_,hm.2⟩;rw [hp.fr x (lt_of_getElem? hm.1) fun k r hk hl=>?_]
  ·exact hm.1
  ·exact SR.ok_dfr (hS.ok k r (vq hk).2) hl hm.1
 ·rw [hp.old k (.inl (Nat.lt_of_lt_of_le hk hn))]
  exact h.rig k hk
theorem Frm.step {B:Bs} {C:Conf} {ρ ρ':Nat→AV} {S S':List AObj} {df:List Nat} {e:Ef} {d:Option Tmp} (h:Frm B C ρ df S) (hS:SatF S ρ (hpF C.hp)) (hw:e.wf C.nx=true) (hp:qg5 ρ S C.nx (hpF C.hp) e ρ' S'):Frm B (C.app d e) ρ' df S':=
 h.stepG hS hp h.le (Nat.le_trans h.le (qf1 hw).1)
theorem SatR.dead {S0:List AObj} {F:Nat→Prop} {C:Conf} {ρ t:Nat→AV} {S:List AObj} {d:Nat} (h:SatR S0 F C ρ t S) (hd:S[d]? = some .dfr) (hl:S0.length≤d):SatR S0 F C ρ t (S.set d .dead):=by
 refine⟨h.sl,⟨fun k r hk=>?_,h.hp.sep⟩,h.own,fun j hj hF=>?_,by simpa using h.len,h.wsl,h.whp⟩
 ·refine SR.ok_of (f:=fun _=>true) (SR.all_mono (fun _ _=>rfl) r (h.whp k r hk).2) (fun _ _=>rfl) (h.hp.ok k r hk) fun o ho=>?_
  have b8:d≠o:=fun e=>SR.ok_dfr (h.hp.ok k r hk) ho (e▸hd);rw [List.getElem?_set_ne b8]
 ·rw [List.getElem?_set_ne (by omega)]
  exact h.low j hj hF
theorem SR.ok_ct {ρ : Nat→AV} {S:List AObj} {c:AV} {r:SR} (h:r.ok ρ S c) {o:Nat} (ho:zl c=some o):(∃ T cs v,S[o]? = some (.cells v T cs)∧∃ T' cs',r = .cells T' cs')∨(∃ m sz T,S[o]? = some (.tip m sz T))∨(∃ sz T xs,r = .own sz T xs)∨(∃ P,r = .obj P)∨∃ T ys cs,r = .rows T ys cs:=by
 cases r with
 |cells T cs=>
  obtain⟨o',v,rfl,h,_⟩:=h;simp only [zl,Option.some.injEq] at ho;subst ho
  exact .inl ⟨_,_,_,h,_,_,rfl⟩
 |tip sz T xs=>
  rcases h with (⟨_,rfl⟩ | ⟨t,rfl,ht,_⟩) | ⟨_,o',v,f,rfl⟩
  ·simp [zl] at ho
  ·simp only [zl,Option.some.injEq] at ho
   subst ho;exact .inr (.inl ⟨_,_,_,ht⟩)
  ·simp [zl] at ho
 |own sz T xs=>exact .inr (.inr (.inl ⟨_,_,_,rfl⟩))
 |obj P=>exact .inr (.inr (.inr (.inl ⟨_,rfl⟩)))
 |rows T ys cs=>exact .inr (.inr (.inr (.inr ⟨_,_,_,rfl⟩)))
def qcp (hp:List (Nat×Option SR)) (ρ : Nat→AV) (o:Nat):Prop:=∃ k r,hpF hp k=some r∧zl (ρ k)=some o
theorem SatR.rebase {S0:List AObj} {F:Nat→Prop} {C:Conf} {ρ t:Nat→AV} {S S':List AObj} (h:SatR S0 F C ρ t S) (hs:∀ o,qcp C.hp ρ o→S'[o]? = S[o]?):SatR S' (qcp C.hp ρ) C ρ t S':=
 ⟨h.sl,⟨fun k r hk=>SR.ok_of (f:=fun _=>true) (SR.all_mono (fun _ _=>rfl) r (h.whp k r hk).2) (fun _ _=>rfl) (h.hp.ok k r hk) fun o ho=>hs o ⟨k,r,hk,ho⟩,h.hp.sep⟩,
  fun k r hk o ho=>.inr ⟨k,r,hk,ho⟩,fun _ _ _=>rfl,Nat.le_refl _,h.wsl,h.whp⟩
def Wk (x r:AV):Prop:=∀ (G:Gh) (v:Value),Rel G x v→Rel G r v
theorem wa (x:AV):Wk x x:=fun _ _ h=>h
theorem zj1 {x y:AV} (h:x=y):Wk x y:=h▸wa x
theorem zed (sz:Nat) (xs:List AV) (tip:Option Nat):Wk (.sl sz xs tip) (.sl sz xs none):=fun _ _ h=>qjm h
theorem q7m {xs ys:List AV} (hl:xs.length=ys.length) (h:∀ (i:Nat) (x y:AV),xs[i]? = some x→ys[i]? = some y→Wk x y):Wk (.ag xs) (.ag ys):=fun G v hr=>by
 cases hr with
 |ag _ vs n9 hr=>
  refine .ag _ vs (by omega) fun i y b hy hb=>?_;have hi:=lt_of_getElem? hy;have hx:xs[i]? = some (xs[i]'(by omega)):=List.getElem?_eq_getElem (by omega);exact h i _ y hx hy G b (hr i _ b hx hb)
theorem zet {xs ys:List AV} (hl:xs.length=ys.length) (h:∀ (i:Nat) (x y:AV),xs[i]? = some x→ys[i]? = some y→Wk x y):Wk (.tu xs) (.tu ys):=fun G v hr=>by
 cases hr with
 |tu _ vs n9 hr=>
  refine .tu _ vs (by omega) fun i y b hy hb=>?_;have hi:=lt_of_getElem? hy;have hx:xs[i]? = some (xs[i]'(by omega)):=List.getElem?_eq_getElem (by omega);exact h i _ y hx hy G b (hr i _ b hx hb)
theorem zjh {t:TypeId} {x y:AV} (h:Wk x y):Wk (.ifc t x) (.ifc t y):=fun G v hr=>by
 cases hr with
 |ifc _ _ z hz=>exact .ifc t y z (h G z hz)
theorem zj2 {f:Fn} {a b c d:List AV} (h1:a.length=c.length) (h2:∀ (i:Nat) (x y:AV),a[i]? = some x→c[i]? = some y→Wk x y) (h3:b.length=d.length) (h4:∀ (i:Nat) (x y:AV),b[i]? = some x→d[i]? = some y→Wk x y):Wk (.fn f a b) (.fn f c d):=fun G v hr=>by
 cases hr with
 |fn _ _ _ a' b' g1 g2 g3 g4=>
  refine .fn f c d a' b' (by omega) (by omega) (fun i x y hx hy=>?_) (fun i x y hx hy=>?_)
  ·have hi:i<a.length:=by have:=lt_of_getElem? hx;omega
   have hz:a[i]? = some a[i]:=List.getElem?_eq_getElem hi;exact h2 i _ x hz hx G y (g3 i _ y hz hy)
  ·have hi:i<b.length:=by have:=lt_of_getElem? hx;omega
   have hz:b[i]? = some b[i]:=List.getElem?_eq_getElem hi;exact h4 i _ x hz hx G y (g4 i _ y hz hy)
mutual
def frz (H:Nat→Option SR):SV→Option AV
 | .a x=>some x
 | .i n=>some (Iv n)
 | .s l=>some (Sv l)
 | .tt=>some (Bv true)
 | .ff=>some (Bv false)
 | .b c=>some (Bv c)
 | .p q h=>some (Bv (@decide q h))
 | .bx _ _=>none
 | .tp k=>match H k with
  |some (.tip sz _ xs)=>some (.sl sz xs none)
  | _=>none
 | .ag cs=>match frzs H cs with
  |some l=>some (.ag l)
  |none=>none
 | .tu cs=>match frzs H cs with
  |some l=>some (.tu l)
  |none=>none
 | .fn f xs ys=>match frzs H xs,frzs H ys with
  |some a,some b=>some (.fn f a b)
  | _,_=>none
 | .ifc t x=>match frz H x with
  |some y=>some (.ifc t y)
  |none=>none
def frzs (H:Nat→Option SR):List SV→Option (List AV)
 | []=>some []
 |x::r=>match frz H x,frzs H r with
  |some y,some l=>some (y::l)
  | _,_=>none
end
theorem qjh {x:AV} (h:x.one=true):x.cells=[x]:=by
 cases x <;> first|rfl|simp [AV.one] at h
theorem quv {b:Nat} {S:List AObj} {sz:Nat} {T:TypeId} {xs:List AV} {c:AV} (h:TipO b S sz T xs c):Wk (tpAt c) (.sl sz xs none)∧c.one=true:=by
 have h1:c.one=true:=by rcases h with (⟨_,rfl⟩ | ⟨t,rfl,_⟩) | ⟨_,o,v,f,rfl⟩ <;> rfl
 refine⟨?_,h1⟩;unfold tpAt;rw [h1];exact qly h
mutual
theorem qgn {S:List AObj} {ρ : Nat→AV} {H:Nat→Option SR} (hS:SatF S ρ H):∀ (v:SV) (x:AV),frz H v=some x→Wk (v.ev ρ) x
 | .a y,x,h=>by simp only [frz,Option.some.injEq] at h;subst h;exact wa _
 | .i y,x,h=>by simp only [frz,Option.some.injEq] at h;subst h;exact wa _
 | .s y,x,h=>by simp only [frz,Option.some.injEq] at h;subst h;exact wa _
 | .tt,x,h=>by simp only [frz,Option.some.injEq] at h;subst h;exact wa _
 | .ff,x,h=>by simp only [frz,Option.some.injEq] at h;subst h;exact wa _
 | .b y,x,h=>by simp only [frz,Option.some.injEq] at h;subst h;exact wa _
 | .p q d,x,h=>by simp only [frz,Option.some.injEq] at h;subst h;exact wa _
 | .bx _ _,x,h=>by simp [frz] at h
 | .tp k,x,h=>by
  simp only [frz] at h;split at h
  ·rename_i sz T xs hk
   simp only [Option.some.injEq] at h;subst h;exact (quv (hS.ok k _ hk)).1
  ·simp at h
 | .ag cs,x,h=>by
  simp only [frz] at h;split at h
  ·rename_i l hl
   simp only [Option.some.injEq] at h;subst h;obtain⟨h1,h2⟩:=qep hS cs l hl;exact q7m h1 h2
  ·simp at h
 | .tu cs,x,h=>by
  simp only [frz] at h;split at h
  ·rename_i l hl
   simp only [Option.some.injEq] at h;subst h;obtain⟨h1,h2⟩:=qep hS cs l hl;exact zet h1 h2
  ·simp at h
 | .fn f xs ys,x,h=>by
  simp only [frz] at h;split at h
  ·rename_i a b ha hb
   simp only [Option.some.injEq] at h;subst h;obtain⟨h1,h2⟩:=qep hS xs a ha;obtain⟨h3,h4⟩:=qep hS ys b hb;exact zj2 h1 h2 h3 h4
  ·simp at h
 | .ifc t y,x,h=>by
  simp only [frz] at h;split at h
  ·rename_i z hz
   simp only [Option.some.injEq] at h;subst h;exact zjh (qgn hS y z hz)
  ·simp at h
theorem qep {S:List AObj} {ρ : Nat→AV} {H:Nat→Option SR} (hS:SatF S ρ H):∀ (l:List SV) (ys:List AV),frzs H l=some ys→(SV.evs ρ l).length=ys.length∧∀ (i:Nat) (x y:AV),(SV.evs ρ l)[i]? = some x→ys[i]? = some y→Wk x y
 | [],ys,h=>by simp only [frzs,Option.some.injEq] at h;subst h;exact⟨rfl,by simp [SV.evs]⟩
 |v::r,ys,h=>by
  simp only [frzs] at h;split at h
  ·rename_i y l hy hl
   simp only [Option.some.injEq] at h;subst h;obtain⟨h1,h2⟩:=qep hS r l hl;have h3:=qgn hS v y hy;refine⟨by simp [SV.evs,h1],fun i a b ha hb=>?_⟩
   cases i with
   |zero=>simp [SV.evs] at ha hb;subst ha;subst hb;exact h3
   |succ i=>exact h2 i a b (by simpa [SV.evs] using ha) (by simpa using hb)
  ·simp at h
end
mutual
def SV.ks:SV→List Nat
 | .bx k _=>[k]
 | .tp k=>[k]
 | .ag cs=>SV.kss cs
 | .tu cs=>SV.kss cs
 | .fn _ xs ys=>SV.kss xs++SV.kss ys
 | .ifc _ x=>SV.ks x
 | _=>[]
def SV.kss:List SV→List Nat
 | []=>[]
 |x::r=>SV.ks x++SV.kss r
end
mutual
def nf:AV→SV
 | .v (.int .i64 n)=>.i n
 | .v (.string ⟨⟨l⟩⟩)=>.s l
 | .v (.bool c)=>.b c
 | .ag cs=>.ag (nfs cs)
 | .tu cs=>.tu (nfs cs)
 |x=>.a x
def nfs:List AV→List SV
 | []=>[]
 |x::r=>nf x::nfs r
end
mutual
theorem qln (ρ : Nat→AV):∀ x:AV,(nf x).ev ρ = x
 | .v x=>by
  unfold nf
  split <;> first|rfl|(rename_i h;cases h;done)|(rename_i h;cases h;rfl)
 | .ag cs=>by simp only [nf,SV.ev,qgq ρ cs]
 | .tu cs=>by simp only [nf,SV.ev,qgq ρ cs]
 | .ifc _ _=>rfl
 | .fn _ _ _=>rfl
 | .sl _ _ _=>rfl
 | .pp _=>rfl
 | .bx _ _ _=>rfl
 | .os _ _ _ _ _=>rfl
 | .mp _=>rfl
 | .yd _=>rfl
theorem qgq (ρ : Nat→AV):∀ l:List AV,SV.evs ρ (nfs l)=l
 | []=>rfl
 |x::r=>by simp only [nfs,SV.evs,qln ρ x,qgq ρ r]
end
mutual
theorem ziv {f:Nat→Bool}:∀ x:AV,(nf x).all f=true
 | .v x=>by unfold nf;split <;> first|rfl|(rename_i h;cases h)
 | .ag cs=>by simp only [nf,SV.all];exact qoh cs
 | .tu cs=>by simp only [nf,SV.all];exact qoh cs
 | .ifc _ _=>rfl
 | .fn _ _ _=>rfl
 | .sl _ _ _=>rfl
 | .pp _=>rfl
 | .bx _ _ _=>rfl
 | .os _ _ _ _ _=>rfl
 | .mp _=>rfl
 | .yd _=>rfl
theorem qoh {f:Nat→Bool}:∀ l:List AV,SV.alls f (nfs l)=true
 | []=>rfl
 |x::r=>by simp only [nfs,SV.alls,ziv x,qoh r];rfl
end
def cst:Value→SV
 | .bool true=>.tt
 | .bool false=>.ff
 |x=>nf (.v x)
theorem zh3 (ρ : Nat→AV) (x:Value):(cst x).ev ρ = .v x:=by
 unfold cst;split
 ·rfl
 ·rfl
 ·exact qln ρ _
def SV.cells:SV→List SV
 | .ag cs=>cs
 | .a x=>nfs x.cells
 |v=>[v]
theorem qp2 (ρ : Nat→AV) (v:SV):SV.evs ρ v.cells=(v.ev ρ).cells:=by
 cases v with
 |a x=>exact qgq ρ _
 |bx k off=>simp only [SV.cells,SV.evs,SV.ev];cases ρ k <;> rfl
 |tp k=>simp only [SV.cells,SV.evs,SV.ev,tpAt];cases h:(ρ k).one <;> first|rfl|(simp only [cond_true];exact (qjh h).symm)
 | _=>rfl
def SV.okc:SV→Bool
 | .a x=>x.okc
 | _=>true
theorem qsv (ρ : Nat→AV) (v:SV) (h:v.okc=true):(v.ev ρ).okc=true:=by
 cases v with
 |a x=>exact h
 |bx k off=>simp only [SV.ev];cases ρ k <;> rfl
 |tp k=>
  simp only [SV.ev,tpAt]
  cases h:(ρ k).one
  ·rfl
  ·simp only [cond_true]
   cases hk : ρ k with
   |v x=>rw [hk] at h;cases x <;> first|rfl|simp [AV.one] at h
   | _=>rfl
 | _=>rfl
def SV.one:SV→Bool
 | .a x=>x.one
 | .ag _=>false
 | .tu _=>false
 | _=>true
theorem qun (ρ : Nat→AV) (v:SV) (h:v.one=true):(v.ev ρ).one=true:=by
 cases v with
 |a x=>exact h
 |bx k off=>simp only [SV.ev];cases ρ k <;> rfl
 |tp k=>simp only [SV.ev,tpAt];cases h:(ρ k).one <;> first|rfl|exact h
 |ag _=>simp [SV.one] at h
 |tu _=>simp [SV.one] at h
 | _=>rfl
def ones (l:List SV):Bool:=l.all SV.one
theorem quf (ρ : Nat→AV):∀ l:List SV,ones l=true→∀ z∈SV.evs ρ l,z.one=true
 | [],_,z,hz=>by simp [SV.evs] at hz
 |x::r,h,z,hz=>by
  simp only [ones,List.all_cons,Bool.and_eq_true] at h;simp only [SV.evs,List.mem_cons] at hz;rcases hz with rfl|hz
  ·exact qun ρ x h.1
  ·exact quf ρ r h.2 z hz
def sval (N:Nat) (sl:List (Nat×SV)):Operand→Option SV
 | .tmp i=>bif Nat.blt i N then lkS sl i else none
 | .const x=>some (cst x)
 | .global g=>some (.a (.v (.pointer (some ⟨g,0,none⟩))))
 | .func f=>some (.a (.fn (.func f) [] []))
theorem qv {N:Nat} {sl:List (Nat×SV)} {ρ t:Nat→AV} {S:List AObj} {df:List Nat} (h:SlOk ρ t sl) {x:Operand} {v:SV} (hx:sval N sl x=some v):qj N ⟨t,S,df⟩ x=v.ev ρ:=by
 cases x with
 |tmp i=>
  simp only [sval] at hx;simp only [qj]
  cases hb:Nat.blt i N with
  |true=>rw [hb] at hx;exact h i v hx
  |false=>rw [hb] at hx;simp at hx
 |const x=>simp only [sval,Option.some.injEq] at hx;subst hx;exact (zh3 ρ x).symm
 |global g=>simp only [sval,Option.some.injEq] at hx;subst hx;rfl
 |func f=>simp only [sval,Option.some.injEq] at hx;subst hx;rfl
def ql3 (N:Nat) (sl:List (Nat×SV)):List Operand→Option (List SV)
 | []=>some []
 |x::r=>match sval N sl x,ql3 N sl r with
  |some v,some l=>some (v::l)
  | _,_=>none
theorem ql4 {N:Nat} {sl:List (Nat×SV)} {ρ t:Nat→AV} {S:List AObj} {df:List Nat} (h:SlOk ρ t sl):∀ {xs:List Operand} {l:List SV},ql3 N sl xs=some l→xs.map (qj N ⟨t,S,df⟩)=SV.evs ρ l
 | [],l,hx=>by simp only [ql3,Option.some.injEq] at hx;subst hx;rfl
 |x::r,l,hx=>by
  simp only [ql3] at hx;split at hx
  ·rename_i v l' h1 h2
   simp only [Option.some.injEq] at hx;subst hx;simp only [List.map_cons,SV.evs,qv h h1,ql4 h h2]
  ·simp at hx
section
variable {E : Env} {N : Nat} {ops : Array Oper} {o : Oper} {nx : Nat} {sl : List (Nat × SV)} {H : Nat → Option SR}
theorem xp {v:SV} {ks:List Nat} (h:∀ (df:List Nat) (rd:Option Nat) (K:AS→Prop) (rest:List Oper) (ρ t:Nat→AV) (S:List AObj),SlOk ρ t sl→SatF S ρ (resF ks H)→AOps E rd N ops rest K (AS.put ⟨t,S,df⟩ o.dst (v.ev ρ))→AOps E rd N ops (o::rest) K ⟨t,S,df⟩) :
  Loc E N ops o nx sl H ⟨v,ks,[],nx⟩:=fun df rd K rest ρ t S hs hS hk=>
 h df rd K rest ρ t S hs hS (hk ρ S ⟨fun _ _=>rfl,⟨fun k r hk=>hS.ok k r hk,fun k k' r r' b8 h1 h2=>hS.sep k k' r r' b8 h1 h2⟩,Nat.le_refl _,fun _ _ _=>rfl,fun k r hk o ho=>.inr ⟨k,r,hk,ho⟩⟩)
theorem z8 {v:SV} (h:∀ (df:List Nat) (rd:Option Nat) (K:AS→Prop) (rest:List Oper) (ρ t:Nat→AV) (S:List AObj),SlOk ρ t sl→AOps E rd N ops rest K (AS.put ⟨t,S,df⟩ o.dst (v.ev ρ))→AOps E rd N ops (o::rest) K ⟨t,S,df⟩) :
  Loc E N ops o nx sl H ⟨v,[],[],nx⟩:=xp fun df rd K rest ρ t S hs _ hk=>h df rd K rest ρ t S hs hk
def upd (ρ : Nat→AV) (n:Nat) (c:AV):Nat→AV:=fun k=>bif Nat.beq k n then c else ρ k
theorem jq (ρ : Nat→AV) (n:Nat) (c:AV):upd ρ n c n=c:=by simp [upd]
theorem w9 (ρ : Nat→AV) {n k:Nat} (c:AV) (h:k≠n):upd ρ n c k = ρ k:=by simp [upd,jb h]
theorem qhw {v:SV} {r:SR} {ks:List Nat} (gw:∀ k r,resF ks H k=some r→k≠nx∧r.all (fun k=> !Nat.beq k nx)=true) (h:∀ (df:List Nat) (rd:Option Nat) (K:AS→Prop) (rest:List Oper) (ρ t:Nat→AV) (S:List AObj),SlOk ρ t sl→SatF S ρ (resF ks H) →
   (∀ c l,r.ok (upd ρ nx c) (S++l) c→(∀ o,zl c=some o→S.length≤o)→AOps E rd N ops rest K (AS.put ⟨t,S++l,df⟩ o.dst (v.ev (upd ρ nx c))))→AOps E rd N ops (o::rest) K ⟨t,S,df⟩) :
  Loc E N ops o nx sl H ⟨v,ks,[(nx,some r)],nx+1⟩:=fun df rd K rest ρ t S hs hS hk=>by
 refine h df rd K rest ρ t S hs hS fun c l hc hl=>hk _ _ ⟨fun k hk=>w9 _ _ (by simp only at hk;omega),?_,by simp,fun j hj _=>List.getElem?_append_left hj,?_⟩
 ·have key:∀ k r',chF [(nx,some r)] (resF ks H) k=some r'→(k=nx∧r'=r)∨(k≠nx∧resF ks H k=some r'):=fun k r' hk=>by
   simp only [chF,lkS] at hk;by_cases e:nx=k
   ·subst e
    have:Nat.beq nx nx=true:=by simp
    rw [this] at hk;simp only [cond_true,Option.some.injEq] at hk;exact .inl ⟨rfl,hk.symm⟩
   ·rw [jb e] at hk
    exact .inr ⟨fun h=>e h.symm,hk⟩
  refine⟨fun k r' hk=>?_,fun k k' r1 r2 b8 h1 h2 o ho=>?_⟩
  ·rcases key k r' hk with⟨rfl,rfl⟩ | ⟨h1,h2⟩
   ·rw [jq];exact hc
   ·rw [w9 _ _ h1]
    have h3:=hS.ok k r' h2;exact SR.ok_of (gw k r' h2).2 (fun k hk=>w9 _ _ (fun e=>by subst e;simp at hk)) h3 fun o ho=>List.getElem?_append_left (SR.ok_lt h3 ho)
  ·rcases key k r1 h1 with⟨rfl,rfl⟩ | ⟨g1,g2⟩
   ·rcases key k' r2 h2 with⟨rfl,rfl⟩ | ⟨f1,f2⟩
    ·exact absurd rfl b8
    ·rw [jq] at ho
     rw [w9 _ _ f1];intro d7;have:=SR.ok_lt (hS.ok k' r2 f2) d7;have:=hl o ho;omega
   ·rcases key k' r2 h2 with⟨rfl,rfl⟩ | ⟨f1,f2⟩
    ·rw [w9 _ _ g1] at ho
     rw [jq];intro d7;have:=SR.ok_lt (hS.ok k r1 g2) ho;have:=hl o d7;omega
    ·rw [w9 _ _ g1] at ho
     rw [w9 _ _ f1];exact hS.sep k k' r1 r2 b8 g2 f2 o ho
 ·intro k r' hk o ho
  simp only [chF,lkS] at hk;by_cases e:nx=k
  ·subst e
   rw [jq] at ho;exact .inl (hl o ho)
  ·rw [jb e] at hk
   rw [w9 _ _ (fun h=>e h.symm)] at ho;exact .inr ⟨k,r',hk,ho⟩
end
end Go.Av
namespace Go.Av
open Go Go.RowKit
section
variable {E : Env} {N : Nat} {ops : Array Oper} {nx : Nat} {sl : List (Nat × SV)} {H : Nat → Option SR} {k : Ef → Prop} {d : Option Tmp} {T : TypeId} {p : String} {af : Array Edge}
def vu (nx:Nat) (v:SV):Ef:=⟨v,[],[],nx⟩
def mvW (nx:Nat) (k:Ef→Prop):Option SV→Prop
 |some v=>k (vu nx v)
 |none=>False
theorem zgl {x:Operand} (h:mvW nx k (sval N sl x)):∃ e,Loc E N ops ⟨d,.move x,T,p,af,none⟩ nx sl H e∧k e:=by
 cases hv:sval N sl x with
 |none=>rw [hv] at h;exact h.elim
 |some v=>rw [hv] at h;exact⟨_,z8 fun df rd K rest ρ t S hs hk=>ql (by rw [qv hs hv];exact hk),h⟩
theorem q76 {x:Operand} (h:mvW nx k (sval N sl x)):∃ e,Loc E N ops ⟨d,.assign x,T,p,af,none⟩ nx sl H e∧k e:=by
 cases hv:sval N sl x with
 |none=>rw [hv] at h;exact h.elim
 |some v=>rw [hv] at h;exact⟨_,z8 fun df rd K rest ρ t S hs hk=>qi (by rw [qv hs hv];exact hk),h⟩
def wayW (x y:Prop):SV→Prop
 | .tt=>x
 | .ff=>y
 | .p q _=>(q→x)∧(¬ q→y)
 | .b c=>(c=true→x)∧(c=false→y)
 | _=>False
theorem zbb {x y:Prop} {v:SV} (h:wayW x y v):∃ c:Bool,(∀ ρ,v.ev ρ = Bv c)∧((c=true∧x)∨(c=false∧y)):=by
 cases v with
 |tt=>exact⟨true,fun _=>rfl,.inl ⟨rfl,h⟩⟩
 |ff=>exact⟨false,fun _=>rfl,.inr ⟨rfl,h⟩⟩
 |p q i=>
  by_cases hq:q
  ·exact⟨_,fun _=>rfl,.inl ⟨by simp [hq],h.1 hq⟩⟩
  ·exact⟨_,fun _=>rfl,.inr ⟨by simp [hq],h.2 hq⟩⟩
 |b c=>
  cases c with
  |true=>exact⟨true,fun _=>rfl,.inl ⟨rfl,h.1 rfl⟩⟩
  |false=>exact⟨false,fun _=>rfl,.inr ⟨rfl,h.2 rfl⟩⟩
 | _=>exact h.elim
def q61 (N:Nat) (sl:List (Nat×SV)) (nx:Nat) (k:Ef→Prop) (c x y:Operand):Prop:=
 match sval N sl c with
 |some v=>wayW (mvW nx k (sval N sl x)) (mvW nx k (sval N sl y)) v
 |none=>False
theorem zgw {c x y:Operand} (h:q61 N sl nx k c x y):∃ e,Loc E N ops ⟨d,.pick c x y,T,p,af,none⟩ nx sl H e∧k e:=by
 unfold q61 at h;split at h
 ·rename_i v hv
  obtain⟨b,hb,h⟩:=zbb h;rcases h with⟨hc,h⟩ | ⟨hc,h⟩
  ·cases hx:sval N sl x with
   |none=>rw [hx] at h;exact h.elim
   |some u=>rw [hx] at h;exact⟨_,z8 fun df rd K rest ρ t S hs hk=>qo2 ((qv hs hv).trans (hb ρ)) hc (by rw [qv hs hx];exact hk),h⟩
  ·cases hx:sval N sl y with
   |none=>rw [hx] at h;exact h.elim
   |some u=>rw [hx] at h;exact⟨_,z8 fun df rd K rest ρ t S hs hk=>qo1 ((qv hs hv).trans (hb ρ)) hc (by rw [qv hs hx];exact hk),h⟩
 ·exact h.elim
def qya (P:Program) (nx:Nat) (k:Ef→Prop) (t:TypeId):Prop:=
 match qht P t with
 |some cs=>k ⟨.bx nx 0,[],[(nx,some (.cells t (nfs cs)))],nx+1⟩
 |none=>False
theorem qc4 (k:Nat):resF [] H k=none:=rfl
theorem wx (k:Nat):resF [k] H k=H k:=by simp [resF,memN]
theorem zbl {t:TypeId} (h:qya E.P nx k t):∃ e,Loc E N ops ⟨d,.alloc t,T,p,af,none⟩ nx sl H e∧k e:=by
 unfold qya at h;split at h
 ·rename_i cs hz
  refine⟨_,qhw (fun k r hk=>by rw [qc4] at hk;simp at hk) fun df rd K rest ρ t' S hs _ hk=>qjt rfl hz ?_,h⟩;have:=hk (.bx S.length 0 0) [.cells 0 t cs] ⟨S.length,0,rfl,by rw [qgq];exact wh,rfl⟩ (fun o ho=>by simp only [zl,Option.some.injEq] at ho;omega)
  simpa only [SV.ev,jq,bxAt] using this
 ·exact h.elim
theorem q5e {rd:Option Nat} {K:AS→Prop} {rest:List Oper} {s:AS} {t:TypeId} {x:Operand} {r:AV} {cs:List AV} (hx:Wk (qj N s x) r) (hok:r.okc=true) (hc:r.cells=cs)
  (h:AOps E rd N ops rest K (s.put d (.pp cs))):AOps E rd N ops (⟨d,.box t x,T,p,af,none⟩::rest) K s:=by
 refine q7 rfl (qy nofun fun B0 w0 G a w _ hI=>?_);have hr:=(hx _ _ (hI.eval x)).cells hok;rw [hc] at hr;obtain⟨d5,hA⟩:=hI.agree.newPub t (a.eval x).cells (0,0) (a.eval x).cells.toList (fun i y hy=>by simpa using hy)
 have a8:(execOp a.eval ⟨d,.box t x,T,p,af,none⟩).run E.P w = .ok (.value (.pointer (some ⟨w.heap.size,0,none⟩))) (w.alloc (.cells (a.eval x).cells t)):=by
  generalize a.eval = ρ;simp [execOp,Instr.box,newVar,newRow,newObj,Sem.run]
 refine⟨_,_,_,.pp cs,s.st,a8,d5,hA,.pp cs w.heap.size 0 (a.eval x).cells.toList (by simp [Gh.publish]) (by rw [hr.1];simp) fun i x y hx hy=>(hr.2 i x y hx (by simpa using hy)).mono d5,h⟩
def qsf (bxs:List Nat):Option Tmp→Bool
 |some d=>memN bxs d
 |none=>false
def boxW (bxs:List Nat) (H:Nat→Option SR) (nx:Nat) (k:Ef→Prop) (d:Option Tmp) (t:TypeId):Option SV→Prop
 |some v=>bif qsf bxs d then (bif v.okc && v.all (fun k=> !Nat.beq k nx) then k ⟨.bx nx 0,[],[(nx,some (.cells t v.cells))],nx+1⟩ else False)
  else match frz (resF v.ks H) v with
   |some y=>bif y.okc then k ⟨.a (.pp y.cells),v.ks,[],nx⟩ else False
   |none=>False
 |none=>False
theorem q8m {f:Nat→Bool}:∀ v:SV,v.all f=true→SV.alls f v.cells=true
 | .ag cs,h=>h
 | .a x,_=>qoh _
 | .i _,_=>rfl
 | .s _,_=>rfl
 | .tt,_=>rfl
 | .ff,_=>rfl
 | .b _,_=>rfl
 | .p _ _,_=>rfl
 | .bx k _,h=>by simpa [SV.cells,SV.alls] using h
 | .tp k,h=>by simpa [SV.cells,SV.alls] using h
 | .tu cs,h=>by simpa [SV.cells,SV.alls] using h
 | .fn _ _ _,h=>by simpa [SV.cells,SV.alls] using h
 | .ifc _ _,h=>by simpa [SV.cells,SV.alls] using h
theorem zh0 {bxs:List Nat} {t:TypeId} {x:Operand} (h:boxW bxs H nx k d t (sval N sl x)):∃ e,Loc E N ops ⟨d,.box t x,T,p,af,none⟩ nx sl H e∧k e:=by
 cases hv:sval N sl x with
 |none=>rw [hv] at h;exact h.elim
 |some v=>
  rw [hv] at h;unfold boxW at h
  cases hb:qsf bxs d with
  |true=>
   rw [hb] at h;simp only [cond_true] at h
   cases hc:(v.okc && v.all (fun k=> !Nat.beq k nx)) with
   |false=>rw [hc] at h;exact h.elim
   |true=>
    rw [hc] at h;simp only [Bool.and_eq_true] at hc;refine⟨_,qhw (fun k r hk=>by rw [qc4] at hk;simp at hk) fun df rd K rest ρ t' S hs _ hk=>q7y rfl (qv hs hv) (qsv ρ v hc.1) (qp2 ρ v).symm ?_,h⟩;have he:SV.evs (upd ρ nx (.bx S.length 0 0)) v.cells=SV.evs ρ v.cells:=yv (f:=fun k=> !Nat.beq k nx) (fun k hk=>w9 _ _ (fun e=>by subst e;simp at hk)) _ (q8m v hc.2);have:=hk (.bx S.length 0 0) [.cells 0 t (SV.evs ρ v.cells)] ⟨S.length,0,rfl,by rw [he];exact wh,rfl⟩ (fun o ho=>by simp only [zl,Option.some.injEq] at ho;omega)
    simpa only [SV.ev,jq,bxAt] using this
  |false=>
   rw [hb] at h;simp only [cond_false] at h;split at h
   ·rename_i y hy
    cases hc:y.okc with
    |false=>rw [hc] at h;exact h.elim
    |true=>
     rw [hc] at h;exact⟨_,xp (v:=.a (.pp y.cells)) fun df rd K rest ρ t' S hs hS hk=>q5e (by rw [qv hs hv];exact qgn hS v y hy) hc rfl hk,h⟩
   ·exact h.elim
def spl {α : Type} (cs:List α) (off:Nat) (xs:List α):List α:=cs.take off++xs++cs.drop (off+xs.length)
theorem zat (ρ : Nat→AV) (cs xs:List SV) (off:Nat):SV.evs ρ (spl cs off xs)=zr (SV.evs ρ cs) off (SV.evs ρ xs):=by
 simp [spl,zr,km]
def qr2 (place:Nat→Option (Nat×Nat)) (cells:List SV):List (Nat×SV)→Option (List SV)
 | []=>some cells
 |(i,x)::rest=>
  match place i with
  |none=>none
  |some (off,size)=>bif x.okc && Nat.beq x.cells.length size && Nat.ble (off+size) cells.length then qr2 place (spl cells off x.cells) rest else none
theorem qzi (ρ : Nat→AV) (place:Nat→Option (Nat×Nat)):∀ (ps:List (Nat×SV)) (cells cs:List SV),qr2 place cells ps=some cs→qb8 place (SV.evs ρ cells) (ps.map fun q=>(q.1,q.2.ev ρ))=some (SV.evs ρ cs)
 | [],cells,cs,h=>by simp only [qr2,Option.some.injEq] at h;subst h;rfl
 |(i,x)::rest,cells,cs,h=>by
  simp only [qr2] at h;simp only [List.map_cons,qb8]
  cases hp:place i with
  |none=>rw [hp] at h;simp at h
  |some q=>
   obtain⟨off,size⟩:=q;rw [hp] at h;simp only at h ⊢
   cases hb:(x.okc && Nat.beq x.cells.length size && Nat.ble (off+size) cells.length) with
   |false=>rw [hb] at h;simp at h
   |true=>
    rw [hb] at h;simp only [Bool.and_eq_true] at hb;have hl:∀ l:List SV,(SV.evs ρ l).length=l.length:=fun l=>by simp [km]
    rw [qsv ρ x hb.1.1,← qp2,hl,hl,hb.1.2,hb.2,← zat];exact qzi ρ place rest _ cs h
def ql1 (N:Nat) (sl:List (Nat×SV)):List (Nat×Operand)→Option (List (Nat×SV))
 | []=>some []
 |(i,x)::r=>match sval N sl x,ql1 N sl r with
  |some v,some l=>some ((i,v)::l)
  | _,_=>none
theorem qfz {ρ t:Nat→AV} {S:List AObj} {df:List Nat} (h:SlOk ρ t sl):∀ {xs:List (Nat×Operand)} {l:List (Nat×SV)},ql1 N sl xs=some l→(xs.map fun x=>(x.1,qj N ⟨t,S,df⟩ x.2))=l.map fun q=>(q.1,q.2.ev ρ)
 | [],l,hx=>by simp only [ql1,Option.some.injEq] at hx;subst hx;rfl
 |(i,x)::r,l,hx=>by
  simp only [ql1] at hx;split at hx
  ·rename_i v l' h1 h2
   simp only [Option.some.injEq] at hx;subst hx;simp only [List.map_cons,qv h h1,qfz h h2]
  ·simp at hx
def qyx (P:Program) (N:Nat) (sl:List (Nat×SV)) (nx:Nat) (k:Ef→Prop) (t:TypeId) (parts:Array (Nat×Operand)):Prop:=
 match qht P t,quh P t,ql1 N sl parts.toList with
 |some zs,some pl,some ps=>(match qr2 (pl[·]?) (nfs zs) ps with
  |some cs=>k (vu nx (.ag cs))
  |none=>False)
 | _,_,_=>False
theorem zbw {t:TypeId} {parts:Array (Nat×Operand)} (h:qyx E.P N sl nx k t parts):∃ e,Loc E N ops ⟨d,.build t parts,T,p,af,none⟩ nx sl H e∧k e:=by
 unfold qyx at h;split at h
 ·rename_i zs pl ps hz hp hs
  split at h
  ·rename_i cs hf
   refine⟨_,z8 (v:=.ag cs) fun df rd K rest ρ t' S ho hk=>xk hz hp (cs:=SV.evs ρ cs) ?_ hk,h⟩;have:=qzi ρ _ _ _ _ hf;rw [qgq] at this;unfold vi;rw [qfz ho hs];exact this
  ·exact h.elim
 ·exact h.elim
def qll (sz:Nat) (agg:Bool) (off:Nat) (cs:List SV):Option SV:=
 bif agg then (bif Nat.ble (off+sz) cs.length then some (.ag ((cs.drop off).take sz)) else none) else cs[off]?
theorem qqh (ρ : Nat→AV) {sz:Nat} {agg:Bool} {off:Nat} {cs:List SV} {v:SV} (h:qll sz agg off cs=some v):js sz agg off (SV.evs ρ cs)=some (v.ev ρ):=by
 unfold qll at h;unfold js
 cases agg with
 |true=>
  simp only [cond_true] at h ⊢;rw [km,List.length_map]
  cases hb:Nat.ble (off+sz) cs.length with
  |false=>rw [hb] at h;simp at h
  |true=>
   rw [hb] at h;simp only [cond_true,Option.some.injEq] at h ⊢;subst h
   simp [SV.ev,km]
 |false=>
  simp only [cond_false] at h ⊢;rw [km,List.getElem?_map,h];rfl
def optW (nx:Nat) (ks:List Nat) (k:Ef→Prop):Option SV→Prop
 |some v=>k ⟨v,ks,[],nx⟩
 |none=>False
def q6m (P:Program) (H:Nat→Option SR) (nx:Nat) (k:Ef→Prop) (t:TypeId):Option SV→Prop
 |some (.bx b off)=>(match H b,tyOf P t with
  |some (.cells _ cs),some (sz,agg)=>optW nx [b] k (qll sz agg off cs)
  | _,_=>False)
 |some (.a (.pp cs))=>(match tyOf P t with
  |some (sz,agg)=>(match js sz agg 0 cs with
   |some r=>k (vu nx (nf r))
   |none=>False)
  |none=>False)
 | _=>False
theorem zgf {t:TypeId} {x:Operand} (h:q6m E.P H nx k t (sval N sl x)):∃ e,Loc E N ops ⟨d,.load t x,T,p,af,none⟩ nx sl H e∧k e:=by
 unfold q6m at h;split at h
 ·rename_i b off hv
  split at h
  ·rename_i T' cs sz agg hH ht
   cases hl:qll sz agg off cs with
   |none=>rw [hl] at h;exact h.elim
   |some v=>
    rw [hl] at h;refine⟨_,xp fun df rd K rest ρ t' S hs hS hk=>?_,h⟩;obtain⟨o,ver,h1,h2,h0⟩:=hS.ok b _ ((wx b).trans hH);exact kf (o:=o) (ver:=ver) (off:=off) ((qv hs hv).trans (by simp only [SV.ev,h1,bxAt])) h2 ht (qqh ρ hl) hk
  ·exact h.elim
 ·rename_i cs hv
  split at h
  ·rename_i sz agg ht
   split at h
   ·rename_i r hr
    exact⟨_,z8 fun df rd K rest ρ t' S hs hk=>jo (qv hs hv) ht hr (by rw [← qln ρ r];exact hk),h⟩
   ·exact h.elim
  ·exact h.elim
 ·exact h.elim
def q1q (P:Program) (H:Nat→Option SR) (nx:Nat) (k:Ef→Prop) (t:TypeId):Option SV→Option SV→Prop
 |some (.bx b off),some v=>(match H b,tyOf P t with
  |some (.cells T cs),some (sz,agg)=>bif v.okc && Nat.beq v.cells.length sz && ones v.cells && Nat.ble (off+sz) cs.length then k ⟨.a (.v undef),[b],[(b,some (.cells T (spl cs off v.cells)))],nx⟩ else False
  | _,_=>False)
 | _,_=>False
theorem zd3 {t:TypeId} {x y:Operand} (h:q1q E.P H nx k t (sval N sl x) (sval N sl y)):∃ e,Loc E N ops ⟨d,.store t x y,T,p,af,none⟩ nx sl H e∧k e:=by
 unfold q1q at h;split at h
 ·rename_i b off v hv hy
  split at h
  ·rename_i T' cs sz agg hH ht
   cases hb:(v.okc && Nat.beq v.cells.length sz && ones v.cells && Nat.ble (off+sz) cs.length) with
   |false=>rw [hb] at h;exact h.elim
   |true=>
    rw [hb] at h;simp only [Bool.and_eq_true] at hb;refine⟨_,fun df rd K rest ρ t' S hs hS hk=>?_,h⟩;obtain⟨o,ver,h1,h2,h0⟩:=hS.ok b _ ((wx b).trans hH);have hl:∀ l:List SV,(SV.evs ρ l).length=l.length:=fun l=>by simp [km]
    refine qe6 (o:=o) (ver:=ver) (off:=off) (xs:=SV.evs ρ v.cells) ((qv hs hv).trans (by simp only [SV.ev,h1,bxAt])) (qv hs hy) h2 ht (qsv ρ v hb.1.1.1) (qp2 ρ v).symm (by rw [hl];exact Nat.eq_of_beq_eq_true hb.1.1.2) (quf ρ _ hb.1.2) (by rw [hl];exact Nat.le_of_ble_eq_true hb.2) ?_;rw [← zat]
    have key:∀ k r,chF [(b,some (.cells T' (spl cs off v.cells)))] (resF [b] H) k=some r→k=b∧r = .cells T' (spl cs off v.cells):=fun k r hk=>by
     simp only [chF,lkS] at hk;by_cases e:b=k
     ·subst e
      have:Nat.beq b b=true:=by simp
      rw [this] at hk;simp only [cond_true,Option.some.injEq] at hk;exact⟨rfl,hk.symm⟩
     ·rw [jb e] at hk
      have:=(vq hk).1;simp only [memN,List.any_cons,List.any_nil,Bool.or_false] at this;exact absurd (Nat.eq_of_beq_eq_true this).symm e
    refine hk ρ _ ⟨fun _ _=>rfl,⟨fun k r hk=>?_,fun k k' r r' b8 g1 g2=>?_⟩,by simp,fun j hj b8=>?_,fun k r hk o' d7=>?_⟩
    ·obtain⟨rfl,rfl⟩:=key k r hk
     exact⟨o,ver,h1,x3 h2,h0⟩
    ·exact absurd ((key k r g1).1.trans (key k' r' g2).1.symm) b8
    ·have:=b8 b _ ((wx b).trans hH)
     rw [h1] at this;exact List.getElem?_set_ne (fun e=>this (by rw [e];rfl))
    ·obtain⟨rfl,rfl⟩:=key k r hk
     exact .inr ⟨k,_,(wx k).trans hH,d7⟩
  ·exact h.elim
 ·exact h.elim
def qz8 (nx:Nat) (k:Ef→Prop):Option SV→Prop
 |some (.bx b off)=>k (vu nx (.bx b off))
 |some (.a (.pp cs))=>k (vu nx (.a (.pp cs)))
 | _=>False
theorem zc3 {x:Operand} (h:qz8 nx k (sval N sl x)):∃ e,Loc E N ops ⟨d,.nilCheck x,T,p,af,none⟩ nx sl H e∧k e:=by
 unfold qz8 at h;split at h
 ·rename_i b off hv
  exact⟨_,z8 fun df rd K rest ρ t' S hs hk=>wy (qv hs hv) (by simp only [SV.ev];cases ρ b <;> rfl) hk,h⟩
 ·rename_i cs hv
  exact⟨_,z8 fun df rd K rest ρ t' S hs hk=>wy (qv hs hv) rfl hk,h⟩
 ·exact h.elim
end
end Go.Av
namespace Go.Av
open Go Go.RowKit
def qan:SV→Option (IntKind×Int)
 | .i n=>some (.i64,n)
 | .a (.v (.int k n))=>some (k,n)
 | _=>none
theorem xo {v:SV} {k:IntKind} {n:Int} (h:qan v=some (k,n)) (ρ : Nat→AV):v.ev ρ = .v (.int k n):=by
 unfold qan at h;split at h
 ·simp only [Option.some.injEq,Prod.mk.injEq] at h;obtain⟨rfl,rfl⟩:=h;rfl
 ·simp only [Option.some.injEq,Prod.mk.injEq] at h;obtain⟨rfl,rfl⟩:=h;rfl
 ·simp at h
def cmpW (op:BinOp) (m n:Int) (k:SV→Prop):Prop:=
 match op with
 | .eql=>k (.p (m=n) inferInstance)
 | .neq=>k (.p (¬ m=n) inferInstance)
 | .lss=>k (.p (m<n) inferInstance)
 | .leq=>k (.p (m≤n) inferInstance)
 | .gtr=>k (.p (n<m) inferInstance)
 | .geq=>k (.p (n≤m) inferInstance)
 | _=>False
theorem ze9 {op:BinOp} {m n:Int} {k:SV→Prop} (h:cmpW op m n k):∃ v b,cmpI op m n=some b∧(∀ ρ,SV.ev ρ v=Bv b)∧k v:=by
 cases op <;> first|exact h.elim|exact⟨_,_,rfl,fun _=>rfl,h⟩
def rngW (r:Int) (k:SV→Prop):Prop:=(-9223372036854775808≤r∧r≤9223372036854775807)∧k (.i r)
def arW (kd:IntKind) (r:Int) (k:SV→Prop):Prop:=
 match kd with
 | .i64=>rngW r k
 |kd=>k (.a (.v (.int kd (kd.wrap r))))
theorem qrl {kd:IntKind} {r:Int} {k:SV→Prop} (h:arW kd r k):∃ v,(∀ ρ,SV.ev ρ v = .v (.int kd (kd.wrap r)))∧k v:=by
 cases kd <;> first|exact⟨.i r,fun ρ=>by rw [zb h.1.1 h.1.2];rfl,h.2⟩|exact⟨_,fun _=>rfl,h⟩
def remW (kd:IntKind) (r:Int) (k:SV→Prop):Prop:=
 match kd with
 | .i64=>k (.i r)
 |kd=>k (.a (.v (.int kd r)))
theorem zg4 {kd:IntKind} {r:Int} {k:SV→Prop} (h:remW kd r k):∃ v,(∀ ρ,SV.ev ρ v = .v (.int kd r))∧k v:=by
 cases kd <;> exact⟨_,fun _=>rfl,h⟩
def intW (op:BinOp) (kd:IntKind) (m n:Int) (k:SV→Prop):Prop:=
 match op with
 | .add=>arW kd (m+n) k
 | .sub=>arW kd (m - n) k
 | .mul=>arW kd (m * n) k
 | .quo=>n≠0∧arW kd (m.tdiv n) k
 | .rem=>n≠0∧remW kd (m.tmod n) k
 |op=>cmpW op m n k
def strW (op:BinOp) (m n:List UInt8) (k:SV→Prop):Prop:=
 match op with
 | .add=>m.length+n.length<9223372036854775808∧k (.s (m++n))
 | .eql=>k (.p (m=n) inferInstance)
 | .neq=>k (.p (¬ m=n) inferInstance)
 |op=>match cmpS op m n with
  |some b=>k (.b b)
  |none=>False
def qkj:SV→Option Bool
 | .tt=>some true
 | .ff=>some false
 | .b c=>some c
 | .p q h=>some (@decide q h)
 | _=>none
theorem qel {v:SV} {b:Bool} (h:qkj v=some b) (ρ : Nat→AV):v.ev ρ = Bv b:=by
 unfold qkj at h;split at h <;> first|(simp only [Option.some.injEq] at h;subst h;rfl)|simp at h
def nilQ:SV→Option Bool
 | .ifc _ _=>some false
 | .a (.ifc _ _)=>some false
 | .a (.v .nilIface)=>some true
 | _=>none
def nilP:SV→Option Bool
 | .bx _ _=>some false
 | .a (.pp _)=>some false
 | .a (.bx _ _ _)=>some false
 | .a (.v (.pointer none))=>some true
 | _=>none
def tf:Bool→SV
 |true=>.tt
 |false=>.ff
def eqW (op:BinOp) (b:Bool) (k:SV→Prop):Prop:=
 match op with
 | .eql=>k (tf b)
 | .neq=>k (tf (!b))
 | _=>False
def qzx:Option TypeDesc→Bool
 |some (.interface _)=>true
 | _=>false
def qzy:Option TypeDesc→Bool
 |some (.pointer _)=>true
 | _=>false
def binW (P:Program) (op:BinOp) (t:TypeId) (y:Operand) (k:SV→Prop) (vx vy:SV):Prop:=
 match y with
 | .const .nilIface=>(match nilQ vx with
  |some b=>bif qzx (P.underlying t) then eqW op b k else False
  |none=>False)
 | .const (.pointer none)=>(match nilP vx with
  |some b=>bif qzy (P.underlying t) then eqW op b k else False
  |none=>False)
 | _=>match qan vx,qan vy with
  |some (kd,m),some (kd',n)=>bif decide (kd=kd') then intW op kd m n k else False
  | _,_=>match vx,vy with
   | .s m,.s n=>strW op m n k
   |vx,vy=>match qkj vx,qkj vy,P.underlying t,op with
    |some a,some b,some .bool,.eql=>k (.b (a == b))
    |some a,some b,some .bool,.neq=>k (.b (!(a == b)))
    | _,_,_,_=>False
section
variable {E : Env} {N : Nat} {ops : Array Oper} {nx : Nat} {sl : List (Nat × SV)} {H : Nat → Option SR} {k : Ef → Prop} {d : Option Tmp} {T : TypeId} {p : String} {af : Array Edge}
def Rule (E:Env) (N:Nat) (ops:Array Oper) (o:Oper) (sl:List (Nat×SV)) (v:SV):Prop:=∀ (df:List Nat) (rd:Option Nat) (K:AS→Prop) (rest:List Oper) (ρ t:Nat→AV) (S:List AObj),SlOk ρ t sl→AOps E rd N ops rest K (AS.put ⟨t,S,df⟩ o.dst (v.ev ρ))→AOps E rd N ops (o::rest) K ⟨t,S,df⟩
theorem zii {op:BinOp} {t t':TypeId} {x y:Operand} {vx vy:SV} {kd:IntKind} {m n:Int} {q:SV→Prop} (hx:sval N sl x=some vx) (hy:sval N sl y=some vy) (h1:qan vx=some (kd,m)) (h2:qan vy=some (kd,n)) (h:intW op kd m n q) :
  ∃ v,Rule E N ops ⟨d,.binOp op t x y t',T,p,af,none⟩ sl v∧q v:=by
 have e1:∀ {ρ t:Nat→AV} {S:List AObj} {df:List Nat},SlOk ρ t sl→qj N ⟨t,S,df⟩ x = .v (.int kd m):=fun hs=>(qv hs hx).trans (xo h1 _);have e2:∀ {ρ t:Nat→AV} {S:List AObj} {df:List Nat},SlOk ρ t sl→qj N ⟨t,S,df⟩ y = .v (.int kd n):=fun hs=>(qv hs hy).trans (xo h2 _)
 have cmp:cmpW op m n q→∃ v,Rule E N ops ⟨d,.binOp op t x y t',T,p,af,none⟩ sl v∧q v:=fun h=>by
  obtain⟨v,b,hb,hv,hq⟩:=ze9 h;exact⟨v,fun df rd K rest ρ t S hs hk=>qt (e1 hs) (e2 hs) hb (by rw [← hv ρ];exact hk),hq⟩
 cases op with
 |add=>
  obtain⟨v,hv,hq⟩:=qrl h
  exact⟨v,fun df rd K rest ρ t S hs hk=>zn (e1 hs) (e2 hs) rfl (by rw [← hv ρ];exact hk),hq⟩
 |sub=>
  obtain⟨v,hv,hq⟩:=qrl h
  exact⟨v,fun df rd K rest ρ t S hs hk=>yj (e1 hs) (e2 hs) rfl (by rw [← hv ρ];exact hk),hq⟩
 |mul=>
  obtain⟨v,hv,hq⟩:=qrl h
  exact⟨v,fun df rd K rest ρ t S hs hk=>qfm (e1 hs) (e2 hs) rfl (by rw [← hv ρ];exact hk),hq⟩
 |quo=>
  obtain⟨hn,h⟩:=h;obtain⟨v,hv,hq⟩:=qrl h
  exact⟨v,fun df rd K rest ρ t S hs hk=>qyj (e1 hs) (e2 hs) hn rfl (by rw [← hv ρ];exact hk),hq⟩
 |rem=>
  obtain⟨hn,h⟩:=h;obtain⟨v,hv,hq⟩:=zg4 h
  exact⟨v,fun df rd K rest ρ t S hs hk=>qyk (e1 hs) (e2 hs) hn (by rw [← hv ρ];exact hk),hq⟩
 | _=>exact cmp h
theorem zjc {op:BinOp} {t t':TypeId} {x y:Operand} {m n:List UInt8} {q:SV→Prop} (hx:sval N sl x=some (.s m)) (hy:sval N sl y=some (.s n)) (h:strW op m n q):∃ v,Rule E N ops ⟨d,.binOp op t x y t',T,p,af,none⟩ sl v∧q v:=by
 have cmp:(match cmpS op m n with|some b=>q (.b b)|none=>False)→∃ v,Rule E N ops ⟨d,.binOp op t x y t',T,p,af,none⟩ sl v∧q v:=fun h=>by
  cases hc:cmpS op m n with
  |none=>rw [hc] at h;exact h.elim
  |some b=>rw [hc] at h;exact⟨.b b,fun df rd K rest ρ t S hs hk=>kr (qv hs hx) (qv hs hy) hc hk,h⟩
 cases op with
 |add=>exact⟨.s (m++n),fun df rd K rest ρ t S hs hk=>vf (qv hs hx) (qv hs hy) h.1 hk,h.2⟩
 |eql=>exact⟨.p (m=n) inferInstance,fun df rd K rest ρ t S hs hk=>kr (b:=decide (m=n)) (qv hs hx) (qv hs hy) rfl hk,h⟩
 |neq=>exact⟨.p (¬ m=n) inferInstance,fun df rd K rest ρ t S hs hk=>kr (b:=decide (¬ m=n)) (qv hs hx) (qv hs hy) rfl hk,h⟩
 | _=>exact cmp h
theorem zep (ρ : Nat→AV) (b:Bool):(tf b).ev ρ = Bv b:=by cases b <;> rfl
theorem zhz {op:BinOp} {t t':TypeId} {x y:Operand} {vx vy:SV} {q:SV→Prop} (hx:sval N sl x=some vx) (hy:sval N sl y=some vy) (h:binW E.P op t y q vx vy):∃ v,Rule E N ops ⟨d,.binOp op t x y t',T,p,af,none⟩ sl v∧q v:=by
 unfold binW at h;split at h
 ·split at h
  ·rename_i b hb
   cases hu:qzx (E.P.underlying t) with
   |false=>rw [hu] at h;exact h.elim
   |true=>
    rw [hu] at h
    have hu':∃ ms,E.P.underlying t=some (.interface ms):=by
     unfold qzx at hu;split at hu
     ·rename_i ms he;exact⟨ms,he⟩
     ·simp at hu
    obtain⟨ms,hu'⟩:=hu';simp only [cond_true] at h
    have bf:(∃ (u:TypeId) (z:(Nat→AV)→AV),∀ ρ,vx.ev ρ = .ifc u (z ρ))∧b=false∨(∀ ρ,vx.ev ρ = .v .nilIface)∧b=true:=by
     unfold nilQ at hb;split at hb <;> simp only [Option.some.injEq,reduceCtorEq] at hb <;> subst hb
     ·rename_i u z;exact .inl ⟨⟨u,fun ρ=>z.ev ρ,fun _=>rfl⟩,rfl⟩
     ·rename_i u z;exact .inl ⟨⟨u,fun _=>z,fun _=>rfl⟩,rfl⟩
     ·exact .inr ⟨fun _=>rfl,rfl⟩
    rcases bf with⟨⟨u,z,hz⟩,rfl⟩ | ⟨hz,rfl⟩
    ·cases op with
     |eql=>exact⟨.ff,fun df rd K rest ρ t S hs hk=>qaq ((qv hs hx).trans (hz ρ)) hu' hk,h⟩
     |neq=>exact⟨.tt,fun df rd K rest ρ t S hs hk=>y4 ((qv hs hx).trans (hz ρ)) hu' hk,h⟩
     | _=>exact h.elim
    ·cases op with
     |eql=>exact⟨.tt,fun df rd K rest ρ t S hs hk=>qdz ((qv hs hx).trans (hz ρ)) hu' hk,h⟩
     |neq=>exact⟨.ff,fun df rd K rest ρ t S hs hk=>x8 ((qv hs hx).trans (hz ρ)) hu' hk,h⟩
     | _=>exact h.elim
  ·exact h.elim
 ·split at h
  ·rename_i b hb
   cases hu:qzy (E.P.underlying t) with
   |false=>rw [hu] at h;exact h.elim
   |true=>
    rw [hu] at h
    have hu':∃ ms,E.P.underlying t=some (.pointer ms):=by
     unfold qzy at hu;split at hu
     ·rename_i ms he;exact⟨ms,he⟩
     ·simp at hu
    obtain⟨ms,hu'⟩:=hu';simp only [cond_true] at h
    have bf:∀ ρ,qbw (vx.ev ρ)=some b:=fun ρ=>by
     unfold nilP at hb;split at hb <;> simp only [Option.some.injEq,reduceCtorEq] at hb <;> subst hb
     ·rename_i kk off;simp only [SV.ev];cases ρ kk <;> rfl
     ·rfl
     ·rfl
     ·rfl
    cases op with
    |eql=>exact⟨tf b,fun df rd K rest ρ t S hs hk=>qas (b:=b) rfl (by rw [qv hs hx];exact bf ρ) hu' (by rw [← zep ρ];exact hk),h⟩
    |neq=>exact⟨tf (!b),fun df rd K rest ρ t S hs hk=>qmd (b:=b) rfl (by rw [qv hs hx];exact bf ρ) hu' (by rw [← zep ρ];exact hk),h⟩
    | _=>exact h.elim
  ·exact h.elim
 ·split at h
  ·rename_i kd m kd' n h1 h2
   cases hd:decide (kd=kd') with
   |false=>rw [hd] at h;exact h.elim
   |true=>
    rw [hd] at h;have:kd=kd':=of_decide_eq_true hd;subst this;exact zii hx hy h1 h2 h
  ·split at h
   ·exact zjc hx hy h
   ·split at h
    ·rename_i a b h1 h2 h3
     exact⟨.b (a == b),fun df rd K rest ρ t S hs hk=>zbn ((qv hs hx).trans (qel h1 ρ)) ((qv hs hy).trans (qel h2 ρ)) h3 hk,h⟩
    ·rename_i a b h1 h2 h3
     exact⟨.b (!(a == b)),fun df rd K rest ρ t S hs hk=>zbo ((qv hs hx).trans (qel h1 ρ)) ((qv hs hy).trans (qel h2 ρ)) h3 hk,h⟩
    ·exact h.elim
def notW (nx:Nat) (k:Ef→Prop):Option SV→Prop
 |some .tt=>k (vu nx .ff)
 |some .ff=>k (vu nx .tt)
 |some (.b c)=>k (vu nx (.b (!c)))
 |some (.p q h)=>k (vu nx (.p (¬ q) (@instDecidableNot q h)))
 | _=>False
theorem ziw {t:TypeId} {x:Operand} (h:notW nx k (sval N sl x)):∃ e,Loc E N ops ⟨d,.unOp .not t x,T,p,af,none⟩ nx sl H e∧k e:=by
 unfold notW at h;split at h
 ·rename_i hv;exact⟨_,z8 (v:=.ff) fun df rd K rest ρ t' S hs hk=>kp (m:=true) (qv hs hv) hk,h⟩
 ·rename_i hv;exact⟨_,z8 (v:=.tt) fun df rd K rest ρ t' S hs hk=>kp (m:=false) (qv hs hv) hk,h⟩
 ·rename_i c hv;exact⟨_,z8 (v:=.b (!c)) fun df rd K rest ρ t' S hs hk=>kp (qv hs hv) hk,h⟩
 ·rename_i q i hv;exact⟨_,z8 (v:=.p (¬ q) (@instDecidableNot q i)) fun df rd K rest ρ t' S hs hk=>qrf (q:=q) (qv hs hv) hk,h⟩
 ·exact h.elim
def q5y (P:Program) (t t':TypeId) (nx:Nat) (k:Ef→Prop):Option SV→Prop
 |some v=>(match qan v,P.underlying t,P.underlying t' with
  |some (_,m),some _,some (.int kd)=>(match kd with
   | .i64=>(-9223372036854775808≤m∧m≤9223372036854775807)∧k (vu nx (.i m))
   |kd=>k (vu nx (.a (.v (.int kd (kd.wrap m))))))
  | _,_,_=>False)
 |none=>False
theorem zfa {t t':TypeId} {x:Operand} (h:q5y E.P t t' nx k (sval N sl x)):∃ e,Loc E N ops ⟨d,.convert t t' x,T,p,af,none⟩ nx sl H e∧k e:=by
 unfold q5y at h;split at h
 ·rename_i v hv
  split at h
  ·rename_i kk m e kd h1 h2 h3
   have:∃ v,(∀ ρ,SV.ev ρ v = .v (.int kd (kd.wrap m)))∧k (vu nx v):=by
    cases kd <;> first|exact⟨.i m,fun ρ=>by rw [zb h.1.1 h.1.2];rfl,h.2⟩|exact⟨_,fun _=>rfl,h⟩
   obtain⟨u,hu,hk⟩:=this;exact⟨_,z8 fun df rd K rest ρ t' S hs hk=>qda ((qv hs hv).trans (xo h1 ρ)) h2 h3 rfl (by rw [← hu ρ];exact hk),hk⟩
  ·exact h.elim
 ·exact h.elim
def qz4 (P:Program) (t:TypeId) (nx:Nat) (k:Ef→Prop):Option SV→Prop
 |some v=>(match P.underlying t with
  |some dsc=>bif qod dsc then False else k (vu nx (.ifc t v))
  |none=>False)
 |none=>False
theorem zc2 {t:TypeId} {x:Operand} (h:qz4 E.P t nx k (sval N sl x)):∃ e,Loc E N ops ⟨d,.makeInterface t x,T,p,af,none⟩ nx sl H e∧k e:=by
 unfold qz4 at h;split at h
 ·rename_i v hv
  split at h
  ·rename_i dsc hd
   cases hi:qod dsc with
   |true=>rw [hi] at h;exact h.elim
   |false=>rw [hi] at h;exact⟨_,z8 fun df rd K rest ρ t' S hs hk=>v7 hd hi (by rw [qv hs hv];exact hk),h⟩
  ·exact h.elim
 ·exact h.elim
def q6o (N:Nat) (sl:List (Nat×SV)) (fn:Fn) (xs ys:Array Operand) (nx:Nat) (k:Ef→Prop):Prop:=
 match ql3 N sl xs.toList,ql3 N sl ys.toList with
 |some a,some b=>k (vu nx (.fn fn a b))
 | _,_=>False
theorem zgk {fn:Fn} {xs ys:Array Operand} (h:q6o N sl fn xs ys nx k):∃ e,Loc E N ops ⟨d,.makeFunc fn xs ys,T,p,af,none⟩ nx sl H e∧k e:=by
 unfold q6o at h;split at h
 ·rename_i a b ha hb
  exact⟨_,z8 fun df rd K rest ρ t' S hs hk=>qgy (by rw [ql4 hs ha,ql4 hs hb];exact hk),h⟩
 ·exact h.elim
def qk8 (P:Program) (t:TypeId) (f:Nat) (nx:Nat) (k:Ef→Prop):Option SV→Prop
 |some (.bx b off)=>(match qat P t f with
  |some (o,sz,_)=>bif Nat.beq sz 0 then False else k (vu nx (.bx b (off+o)))
  |none=>False)
 |some (.a (.pp cs))=>(match qat P t f with
  |some (o,sz,_)=>bif !Nat.beq sz 0 && Nat.ble o cs.length then k (vu nx (.a (.pp (cs.drop o)))) else False
  |none=>False)
 | _=>False
theorem zbx (x:AV) (off o:Nat):∃ a b,bxAt x off = .bx a b off∧bxAt x (off+o) = .bx a b (off+o):=by
 cases x <;> exact⟨_,_,rfl,rfl⟩
theorem qzg {t:TypeId} {f:Nat} {x:Operand} (h:qk8 E.P t f nx k (sval N sl x)):∃ e,Loc E N ops ⟨d,.fieldAddr t x f,T,p,af,none⟩ nx sl H e∧k e:=by
 unfold qk8 at h;split at h
 ·rename_i b off hv
  split at h
  ·rename_i o sz agg hf
   cases hz:Nat.beq sz 0 with
   |true=>rw [hz] at h;exact h.elim
   |false=>
    rw [hz] at h;refine⟨_,z8 fun df rd K rest ρ t' S hs hk=>?_,h⟩;obtain⟨a1,b1,g1,g2⟩:=zbx (ρ b) off o;exact zg ((qv hs hv).trans g1) hf hz (by rw [← g2];exact hk)
  ·exact h.elim
 ·rename_i cs hv
  split at h
  ·rename_i o sz agg hf
   cases hz:(!Nat.beq sz 0 && Nat.ble o cs.length) with
   |false=>rw [hz] at h;exact h.elim
   |true=>
    rw [hz] at h;simp only [Bool.and_eq_true,Bool.not_eq_true'] at hz;exact⟨_,z8 (v:=.a (.pp (cs.drop o))) fun df rd K rest ρ t' S hs hk=>y7 (qv hs hv) hf hz.1 hz.2 hk,h⟩
  ·exact h.elim
 ·exact h.elim
def qzh (P:Program) (t:TypeId) (f:Nat) (nx:Nat) (k:Ef→Prop):Option SV→Prop
 |some (.ag cs)=>(match qat P t f with
  |some (o,sz,agg)=>optW nx [] k (qll sz agg o cs)
  |none=>False)
 |some (.a (.ag cs))=>(match qat P t f with
  |some (o,sz,agg)=>(match js sz agg o cs with
   |some r=>k (vu nx (nf r))
   |none=>False)
  |none=>False)
 | _=>False
theorem zcf {t:TypeId} {f:Nat} {x:Operand} (h:qzh E.P t f nx k (sval N sl x)):∃ e,Loc E N ops ⟨d,.field t x f,T,p,af,none⟩ nx sl H e∧k e:=by
 unfold qzh at h;split at h
 ·rename_i cs hv
  split at h
  ·rename_i o sz agg hf
   cases hl:qll sz agg o cs with
   |none=>rw [hl] at h;exact h.elim
   |some v=>
    rw [hl] at h;exact⟨_,z8 fun df rd K rest ρ t' S hs hk=>qk4 (qv hs hv) hf (qqh ρ hl) hk,h⟩
  ·exact h.elim
 ·rename_i cs hv
  split at h
  ·rename_i o sz agg hf
   split at h
   ·rename_i r hr
    exact⟨_,z8 fun df rd K rest ρ t' S hs hk=>qk4 (qv hs hv) hf hr (by rw [← qln ρ r];exact hk),h⟩
   ·exact h.elim
  ·exact h.elim
 ·exact h.elim
def qp5 (i:Nat) (nx:Nat) (k:Ef→Prop):Option SV→Prop
 |some (.tu vs)=>optW nx [] k vs[i]?
 |some (.a (.tu vs))=>(match vs[i]? with
  |some r=>k (vu nx (nf r))
  |none=>False)
 | _=>False
theorem q6f {i:Nat} {x:Operand} (h:qp5 i nx k (sval N sl x)):∃ e,Loc E N ops ⟨d,.extract x i,T,p,af,none⟩ nx sl H e∧k e:=by
 unfold qp5 at h;split at h
 ·rename_i vs hv
  cases hl:vs[i]? with
  |none=>rw [hl] at h;exact h.elim
  |some v=>
   rw [hl] at h;exact⟨_,z8 fun df rd K rest ρ t' S hs hk=>zz (xs:=SV.evs ρ vs) (qv hs hv) (by rw [km,List.getElem?_map,hl];rfl) hk,h⟩
 ·rename_i vs hv
  split at h
  ·rename_i r hr
   exact⟨_,z8 fun df rd K rest ρ t' S hs hk=>zz (qv hs hv) hr (by rw [← qln ρ r];exact hk),h⟩
  ·exact h.elim
 ·exact h.elim
def qi6 (H:Nat→Option SR) (sz:Nat):SV→Option (List AV×List Nat)
 | .a (.sl z xs _)=>bif Nat.beq z sz then some (xs,[]) else none
 | .a (.v (.slice none 0 0))=>some ([],[])
 | .tp b=>(match H b with
  |some (.tip z _ xs)=>bif Nat.beq z sz then some (xs,[b]) else none
  | _=>none)
 | _=>none
theorem qea {S:List AObj} {ρ : Nat→AV} {v:SV} {sz:Nat} {xs:List AV} {ks:List Nat} (h:qi6 H sz v=some (xs,ks)) (hS:SatF S ρ (resF ks H)):Wk (v.ev ρ) (.sl sz xs none):=by
 unfold qi6 at h;split at h
 ·rename_i z ys tip
  cases hz:Nat.beq z sz with
  |false=>rw [hz] at h;simp at h
  |true=>
   rw [hz] at h;simp only [cond_true,Option.some.injEq,Prod.mk.injEq] at h;obtain⟨rfl,rfl⟩:=h;rw [← Nat.eq_of_beq_eq_true hz];exact zed _ _ _
 ·simp only [Option.some.injEq,Prod.mk.injEq] at h
  obtain⟨rfl,rfl⟩:=h;exact fun _ _ h=>qbb h
 ·rename_i b
  split at h
  ·rename_i z T' ys hb
   cases hz:Nat.beq z sz with
   |false=>rw [hz] at h;simp at h
   |true=>
    rw [hz] at h;simp only [cond_true,Option.some.injEq,Prod.mk.injEq] at h;obtain⟨rfl,rfl⟩:=h;rw [← Nat.eq_of_beq_eq_true hz];exact (quv (hS.ok b _ ((wx b).trans hb))).1
  ·simp at h
 ·simp at h
end
end Go.Av
