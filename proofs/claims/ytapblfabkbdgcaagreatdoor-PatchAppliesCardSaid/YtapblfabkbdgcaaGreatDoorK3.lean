/- Contracts and plain facts that the closing text leans on (part 3). No condition of their own beyond those that each states. -/
import Derived.Test.YtapblfabkbdgcaaGreatDoorK2
import Derived.Lib.ItoaLen
set_option maxRecDepth 100000
set_option linter.unusedVariables false
set_option linter.unusedSimpArgs false
open Array renaming getElem?_toList→Ze,getD→Zj,getElem?_eq_none→Zp,replicate→Xg
open Bool renaming and_eq_true→Xf
open List renaming length_append→Qa,getElem?_append_left→Qb,length_cons→Qe,eq_nil_of_length_eq_zero→Qf,getElem?_set_ne→Qh,getElem?_append_right→Qi,append_assoc→Qj,getElem?_drop→Qk,length_map→Ql,getElem?_take→Qm,length_nil→Qn,mem_cons→Qo,map_cons→Qp,flatMap_cons→Qq,getElem?_map→Qr,getElem?_take_of_lt→Qt,not_mem_nil→Qu,length_pos_iff→Qv,ext_getElem?→Qy,all_eq_true→Qz,mem_append→Za,getElem?_eq_getElem→Zb,getElem?_set_self→Zc,getElem?_eq_none→Zd,mem_of_getElem?→Zf,map_append→Zg,append_nil→Zh,drop_append_of_le_length→Zi,cons_append→Zl,length_eq_zero_iff→Zm,headD_cons→Zn,length→Zr,getElem?_toArray→Zs,mem_range→Zt,tail_cons→Zu,take_append_drop→Zv,forall_mem_cons→Zw,mem_of_mem_take→Zx,takeWhile_cons→Zy,mem_map→Xa,set_set→Xb,set_cons_succ→Xc,map_map→Xd,mem_of_head?→Xe,length_set→Xi,take_left'→Xj,drop_left'→Xk,getD→Xo,sum_cons→Xq,range→Xt
open Nat renaming le_refl→Qc,le_of_ble_eq_true→Qd,mul_le_mul_right→Qg,zero_add→Qs,add_mul→Qw,lt_or_ge→Zk,min_eq_left→Zo,zero_le→Zq,add_zero→Zz,beq→Xl,ble→Xm,lt_irrefl→Xp,succ_mul→Xr,ne_of_lt→Xs,blt→Xu
open Option renaming map_some→Xh
open Option.some renaming injEq→Qx
open Prod.mk renaming injEq→Xv
namespace Go.Proofs.YtapblfabkbdgcaaGreatDoor
open Go Go.Av Go.RowKit Go.Proofs Go.Pl
theorem zds:Opn Tryz.prog 98 λa=>∃f:FldV,a=fldA f:=by
 intro H enc W fuel cs x h
 obtain⟨a,⟨vs,rfl,hl,hv⟩,hr⟩:=qj4 (As:=[(some .string,IsS),(some .string,IsS)]) Kr Kr Kr Kr
  (Zw.2 ⟨⟨λ_ h=>zbm h,zbl⟩,Zw.2 ⟨⟨λ_ h=>zbm h,zbl⟩,nofun⟩⟩) H enc W fuel cs x h
 match vs,hl with
 | [v0,v1],_=>
  obtain⟨l0,rfl,_⟩:=hv 0 _ _ rfl rfl
  obtain⟨l1,rfl,_⟩:=hv 1 _ _ rfl rfl
  exact⟨_,⟨(l0,l1),rfl⟩,hr⟩
theorem q95{t:TypeId}(hu:Tryz.prog.underlying t=some (.slice 98)):Opn Tryz.prog t λa=>∃xs:List FldV,a=q6 xs∧xs.length<=maxLen:=by
 intro H enc W fuel cs x h
 obtain⟨a,⟨xs,rfl,hl,hx⟩,hr⟩:=q69 (sz:=2) hu Kr (by decide) zds H enc W fuel cs x h
 obtain⟨rs,rfl⟩:=q09 hx
 exact⟨_,⟨rs,rfl,by simpa using hl⟩,hr⟩
theorem q93:One λa=>∃xs:List FldV,a=q6 xs∧xs.length<=maxLen:=by rintro _ ⟨xs,rfl,_⟩;rfl
theorem q6u{n:Nat}(h:n<=maxLen):n<9223372036854775808:=by unfold maxLen at h;omega
structure qq where
 kind:Int
 id:Int
 fields:List FldV
@[reducible] def j6 (e : qq) : AV := .ag [Iv e.kind, Iv e.id, q6 e.fields]
def qqq(k:Int):qd:=if k=1 then [32,114,101,112,108,97,99,101,32]else if k=2 then [32,100,101,108,101,116,101,32]else if k=3 then [32,105,110,115,101,114,116,32]else []
def qe1(e:qq):qd:=if 1<=e.kind∧e.kind<=3 then qqq e.kind++Lib.itoa e.id else []
end Go.Proofs.YtapblfabkbdgcaaGreatDoor
namespace Go.Av
open Go Go.RowKit
def noop(o:Oper):Oper:={o with op:=.move (.const undef),guard:=none}
section
variable {F : Fence} {n : Nat} {P : Program} {ops ops' : Array Oper} {md : Region.Mode} {C : World → Prop} {Q : Exit → Act → World → Prop} {k : Nat} {o : Oper}
theorem qi8{listed:Array Bool}:∀k,listed.getD k true=false->∃j,j<=k∧listed.getD j true=false∧∀i,i<j->listed.getD i true=true:=by
 intro k
 induction k using Nat.strongRecOn with
 |_ k ih=>
  intro h
  by_cases hall:∀i,i<k->listed.getD i true=true
  .exact⟨k,Qc _,h,hall⟩
  .have ⟨i,hi⟩:=Classical.not_forall.1 hall
   have ⟨hi1,hi2⟩:=Classical.not_imp.1 hi
   obtain⟨j,h1,h2,h3⟩:=ih i hi1 (by simpa using hi2)
   exact⟨j,Om,h2,h3⟩
theorem qu6{listed:Array Bool}{i:Nat}(h:listed.getD i true=true)(hi:i<listed.size):listed.getD i false=true:=by
 simp[Zj,hi]at h⊢
 exact h
theorem qz7{listed:Array Bool}{i:Nat}(h:listed.getD i true=false)(h2:listed.getD i false=true):False:=by
 unfold Zj at h h2
 by_cases hi:i<listed.size
 .rw[dif_pos hi]at h h2
  rw[h]at h2
  cases h2
 .rw[dif_neg hi]at h
  cases h
theorem qnx{listed:Array Bool}{j:Nat}(hsz:listed.size=ops.size)(hord:∀(j:Nat)o,ops[j]?=some o->∀e∈o.after,e.on<j)(hj:listed.getD j true=false)(hall:∀i,i<j->listed.getD i true=true):j∈Region.ready md ops listed:=by
 have hlt:j<listed.size:=by
  rcases Zk j listed.size with h|h
  .exact h
  .simp[Zj,Nat.not_lt.2 h]at hj
 rw[mem_ready]
 have ho:ops[j]?=some ops[j]:=Array.getElem?_eq_getElem Om
 exact⟨hj,_,ho,λe he _=>qu6 (hall _ (hord j _ ho e he)) (by have:=hord j _ ho e he;omega)⟩
theorem qkc{listed:Array Bool}(hs:ops.size=ops'.size)(hk:ops[k]?=some o)(hk':ops'[k]?=some (noop o))(hoth:∀j,j≠k->ops'[j]?=ops[j]?):Region.ready md ops' listed=Region.ready md ops listed:=by
 unfold Region.ready
 rw[hs]
 refine List.filter_congr λi _=>?_
 by_cases h:i=k
 .subst h;rw[hk,hk'];rfl
 .rw[hoth i h]
theorem qzl(hd:o.dst=none)(hk:ops[k]?=some o)(hk':ops'[k]?=some (noop o))(hoth:∀j,j≠k->ops'[j]?=ops[j]?)(t:Array Value):yielded ops' t=yielded ops t:=by
 funext j
 unfold yielded
 by_cases h:j=k
 .subst h;rw[hk,hk'];simp[noop,hd]
 .rw[hoth j h]
theorem qmd(hro:F.round=none)(hsz:ops.size=ops'.size)(hk:ops[k]?=some o)(hk':ops'[k]?=some (noop o))(hoth:∀j,j≠k->ops'[j]?=ops[j]?)(hd:o.dst=none)
  (hord:∀(j:Nat)o,ops[j]?=some o->∀e∈o.after,e.on<j) (hcov:∀j,j<ops.size->j≠k->∃e∈o.after,Region.binds md e=true∧e.on=j):
  ∀(fuel:Nat)(listed:Array Bool)(a:Act)(w:World),C w->listed.size=ops.size->listed.getD k true=false->wpAnyQIn F n P md ops' C (λa=>∀w,C w->wpOpIn F n P ops Q k (Q .normal) a w) fuel listed a->wpAnyIn F n P md ops Q fuel listed a w
 |0,listed,a,w,hC,hs,hun,h=>by
  have ⟨j,_,h2,h3⟩:=qi8 k hun
  have:=qnx (md:=md) hs hord h2 h3
  rw[<-qkc hsz hk hk' hoth,h.1]at this
  cases this
 |fuel+1,listed,a,w,hC,hs,hun,h=>by
  obtain⟨hq1,hq2⟩:=h
  rw[qkc hsz hk hk' hoth]at hq1 hq2
  refine⟨λh0=>?_,λi hi=>?_⟩
  .have ⟨j,_,h2,h3⟩:=qi8 k hun
   have:=qnx (md:=md) hs hord h2 h3
   rw[h0]at this
   cases this
  .have hqi:=hq2 i hi
   by_cases hik:i=k
   .subst hik
    obtain⟨_,o',ho',hall⟩:=mem_ready.1 hi
    rw[hk]at ho'
    cases ho'
    have hr:Region.ready md ops (listed.setIfInBounds i true)=[]:=by
     rw[List.eq_nil_iff_forall_not_mem]
     intro j hj
     obtain⟨hju,oj,hoj,_⟩:=mem_ready.1 hj
     have hjs:j<ops.size:=by
      rcases Zk j ops.size with h|h
      .exact h
      .rw[Zp h]at hoj;cases hoj
     by_cases hji:j=i
     .subst hji
      simp[Zj,hs,hjs]at hju
     .obtain⟨e,he,hb,heq⟩:=hcov j hjs hji
      have h5:=hall e he hb
      rw[heq]at h5
      rw[getD_set_ne true (Ne.symm hji)]at hju
      exact qz7 hju h5
    unfold qOpIn at hqi
    rw[hk']at hqi
    simp only at hqi
    have hqe:=hqi.2
    have hwn:Region.wanted (noop o) (yielded ops' a.tmps)=true:=by simp[noop,Region.wanted]
    rw[if_pos hwn]at hqe
    obtain⟨v,_,hK⟩:=hqe
    have hput:a.put (noop o).dst v=a:=by simp[noop,hd,Act.put]
    rw[hput]at hK
    have hQ':∀w,C w->wpOpIn F n P ops Q i (Q .normal) a w:=by
     cases fuel with
     |zero=>exact hK.2
     |succ fuel=>exact hK.1 (by rw[qkc hsz hk hk' hoth];exact hr)
    exact wpOpIn_mono (λa' w' h'=>wpAnyIn_done hr h' _) (hQ' w hC)
   .have he:qOpIn F n P ops C i (wpAnyQIn F n P md ops' C (λa=>∀w,C w->wpOpIn F n P ops Q k (Q .normal) a w) fuel (listed.setIfInBounds i true)) a:=by
     unfold qOpIn at hqi⊢
     rw[hoth i hik]at hqi
     rw[<-qzl hd hk hk' hoth]
     exact hqi
    refine wpOpIn_of_qOpIn hro hC (λa' w' hC' hX=>qmd hro hsz hk hk' hoth hd hord hcov fuel _ a' w' hC' (by simpa using hs) ?_ hX) he
    rw[getD_set_ne true hik]
    exact hun
def qdw{α:Type}:List α->Option (List α×α)
 | []=>none
 | [x]=>some ([],x)
 |x::y::r=>match qdw (y::r)with
  |some (l,o)=>some (x::l,o)
  |none=>none
theorem ql8{α:Type}:∀{L l:List α}{o:α},qdw L=some (l,o)->L=l++[o]
 | [],_,_,h=>by simp[qdw]at h
 | [x],_,_,h=>by simp[qdw]at h;obtain⟨rfl,rfl⟩:=h;rfl
 |x::y::r,l,o,h=>by
  unfold qdw at h
  split at h
  .rename_i l' o' he
   simp only[Qx,Xv]at h
   obtain⟨rfl,rfl⟩:=h
   rw[ql8 he]
   rfl
  .simp at h
def q1l(o:Oper)(k:Nat):Bool:=(Xt k).all λj=>o.after.toList.any λe=>Region.binds .any e&&Xl e.on j
def qx8(ops:List Oper):Bool:=(Xt ops.length).all λj=>match ops[j]?with|some o=>o.after.toList.all λe=>Xu e.on j|none=>true
end
section
variable {E : Env} {N : Nat} {s : AS}
theorem qta{id:Nat}{L l:List Oper}{o:Oper}{Q:Exit->AS->Prop}(hsp:qdw L=some (l,o))(hd:o.dst=none)(hcov:q1l o l.length=true)(hord:qx8 L=true)(hm:E.P.follows .mixedOrders=true)(hB:Region.lexB .any (l++[noop o]).toArray=true)
  (h:AQ E N (l++[noop o]).toArray l (λs'=>AOps E none N L.toArray [o] (Q .normal) s') s):AWp E none N (.region id L.toArray true) Q s:=by
 have hLe:=ql8 hsp
 subst hLe
 refine⟨λB0 w0 G a w hL hI=>?_⟩
 have hB2:=hB
 simp only[Region.lexB,Xf]at hB2
 have hk:(l++[o]).toArray[l.length]?=some o:=Sx
 have hk':(l++[noop o]).toArray[l.length]?=some (noop o):=Sx
 have hoth:∀j,j≠l.length->(l++[noop o]).toArray[j]?=(l++[o]).toArray[j]?:=λj hj=>by
  simp only[Zs]
  rcases Zk j l.length with h|h
  .rw[Qb h,Qb h]
  .rw[Zd So,Zd So]
 have hordP:∀(j:Nat)o',(l++[o]).toArray[j]?=some o'->∀e∈o'.after,e.on<j:=λj o' hj e he=>by
  simp only[qx8,Qz,Zt]at hord
  simp only[Zs]at hj
  have h1:=hord j (lt_of_getElem? hj)
  rw[hj]at h1
  simp only at h1
  have h2:=Qz.1 h1 e (by simpa using he)
  exact Qd h2
 have hcovP:∀j,j<(l++[o]).toArray.size->j≠l.length->∃e∈o.after,Region.binds .any e=true∧e.on=j:=λj hj hne=>by
  simp only[q1l,Qz,Zt]at hcov
  have h1:=hcov j (by simp at hj;omega)
  obtain⟨e,he,h2⟩:=List.any_eq_true.1 h1
  simp only[Xf]at h2
  exact⟨e,by simpa using he,h2.1,Nat.eq_of_beq_eq_true h2.2⟩
 have hBl:Below w.heap.size w {w with drawn:=w.drawn+1}:=⟨rfl,rfl,rfl,Qc _,λ_ _=>rfl⟩
 refine wpIn_region_any hm (qmd (C:=λw'=>Below w.heap.size w w') (ops':=(l++[noop o]).toArray) (k:=l.length) rfl Sx hk hk' hoth hd hordP hcovP _ _ _ _ hBl Sx (by simp[Zj]) ?_)
 have hq:wpQuietIn (fw none) 0 E.P (l++[noop o]).toArray (λw'=>Below w.heap.size w w') (λa=>∀w',Below w.heap.size w w'->wpOpIn (fw none) 0 E.P (l++[o]).toArray (λe a' w'=>∃(G':Gh)(s':AS),G.le G'∧Inv B0 w0 N G' s' a' w'∧Q e s') l.length (λa' w'=>∃(G':Gh)(s':AS),G.le G'∧Inv B0 w0 N G' s' a' w'∧Q .normal s') a w') (l++[noop o]) a:=by
  have step:∀(l1:List Oper)(a:Act)(X:Act->Prop),wpQuietIn (fw none) 0 E.P (l++[noop o]).toArray (λw'=>Below w.heap.size w w') X l1 a->wpQuietIn (fw none) 0 E.P (l++[noop o]).toArray (λw'=>Below w.heap.size w w') X (l1++[noop o]) a:=by
   intro l1
   induction l1 with
   |nil=>
    intro a X hX
    refine⟨λ_ _ _ hf=>?_,?_⟩
    .simp[Oper.about,noop]at hf
    .have hwn:Region.wanted (noop o) (yielded (l++[noop o]).toArray a.tmps)=true:=by simp[noop,Region.wanted]
     rw[if_pos hwn]
     refine⟨undef,λw' _=>?_,?_⟩
     .unfold Oper.quietAtIn
      simp[noop,execOp,Oper.quietUponIn,Act.eval]
     .have hput:a.put (noop o).dst undef=a:=by simp[noop,hd,Act.put]
      rw[hput]
      exact hX
   |cons o1 l1 ih=>
    intro a X hX
    refine⟨hX.1,?_⟩
    have h2:=hX.2
    split
    .rename_i hw
     rw[if_pos hw]at h2
     obtain⟨v,h3,h4⟩:=h2
     exact⟨v,h3,ih _ _ h4⟩
    .rename_i hw
     rw[if_neg hw]at h2
     exact ih _ _ h2
  refine step l a _ (h.run B0 w0 G a w hL hI _ λs' a' hI' hst hks w' hw'=>?_)
  have hI2:Inv B0 w0 N G s' a' w':=⟨hI'.agree.fresh hw',hI'.defers,hI'.size,hI'.tmps⟩
  have hr:=hks.run B0 w0 G a' w' hL hI2 (λe a' w'=>∃(G':Gh)(s':AS),G.le G'∧Inv B0 w0 N G' s' a' w'∧Q e s') (λG' s'' a'' w'' hG hI3 hQ=>⟨G',s'',hG,hI3,hQ⟩)
  unfold wpOpIn
  rw[hk]
  exact hr
 have:=wpAnyQIn_lex (F:=fw none) (n:=0) (C:=λw'=>Below w.heap.size w w') (md:=.any) hB2.1 (l++[noop o]) 0 (Xg (l++[noop o]).length false) a Sx (by simpa using hB2.2) hq
 simpa using this
variable {ops : Array Oper} {K : AS → Prop} {rest : List Oper} {d : Option Tmp} {T : TypeId} {p : String} {af : Array Edge}
theorem qk7{x y:Operand}{t t':TypeId}{m n:List UInt8}(hx:qg N s x=Sv m)(hy:qg N s y=Sv n)(hl:m.length+n.length<9223372036854775808)
  (h:AQ E N ops rest K (s.put d (Sv (m++n)))):AQ E N ops (⟨d,.binOp .add t x y t',T,p,af,none⟩::rest) K s:=
 qaa _ rfl nofun (λa w he=>by
  simp only[execOp,he _ _ hx,he _ _ hy,eqGuard_at_string,binOp,Op.stringOp,yp,qs6,IntKind.max_i64]
  rw[if_neg Om]
  simp) h
theorem qbz{x y:Operand}{t e:TypeId}{sz:Nat}{agg:Bool}{xs:List AV}{tip:Option Nat}{k:IntKind}{i:Int}{n:Nat}{z:AV}(hx:qg N s x=.sl sz xs tip)(hy:qg N s y=.v (.int k i))(hu:E.P.underlying t=some (.slice e))(ht:tyOf E.P e=some (sz,agg))(hi:i=n)(hz:xs[n]?=some z)
  (h:AQ E N ops rest K (s.put d (.pp z.cells))):AQ E N ops (⟨d,.indexAddr t x y,T,p,af,none⟩::rest) K s:=by
 refine qcl rfl nofun λB0 w0 G a w _ hI=>?_
 subst hi
 have he:=hI.eval_of hx
 have hey:=hI.evalv hy
 generalize hv:a.eval x=v at he
 have hlt:=lt_of_getElem? hz
 cases he with
 |sl0=>simp at hz
 |sl _ _ _ b off cap pub hp hw hlen hrel htip hcap=>
  have hzs:z.cells.length=sz:=hw z (Zf hz)
  have hfl:=zk hw
  have hle:(n+1)*sz<=xs.length*sz:=Qg _ hlt
  rw[Xr]at hle
  refine⟨.pointer (some ⟨b,off+n*sz,none⟩),.pp z.cells,λw' _=>?_,?_,h⟩
  .generalize a.eval=ρ at hv hey
   simp only[execOp,hv,hey]
   simp[Instr.indexAt,asIntOf,run_underlying hu,hlt,(kr ht w').1,Addr.add_lit]
  .refine .pp _ b _ pub hp Om λj q r h1 h2=>?_
   have hj:j<sz:=by have:=lt_of_getElem? h1;omega
   have hf:=qgy hw hz j hj
   exact hrel (n*sz+j) q r (by rw[hf];exact h1) (by rw[<-h2];congr 1;omega)
theorem qho{x y:Operand}{t e:TypeId}{sz:Nat}{agg:Bool}{o ver off len cp:Nat}{k:IntKind}{i:Int}{n:Nat}(hx:qg N s x=.os o ver off len cp)(hy:qg N s y=.v (.int k i))(hu:E.P.underlying t=some (.slice e))(ht:tyOf E.P e=some (sz,agg))(hi:i=n)(hn:n<len)
  (h:AQ E N ops rest K (s.put d (.bx o ver (off+n*sz)))):AQ E N ops (⟨d,.indexAddr t x y,T,p,af,none⟩::rest) K s:=by
 refine qcl rfl nofun λB0 w0 G a w _ hI=>?_
 subst hi
 have he:=hI.eval_of hx
 have hey:=hI.evalv hy
 generalize hv:a.eval x=v at he
 cases he with
 |os _ _ _ _ b cap hn' hver hb=>
  refine⟨.pointer (some ⟨b,off+n*sz,none⟩),_,λw' _=>?_,.bx o ver _ b hn' hver hb,h⟩
  generalize a.eval=ρ at hv hey
  simp only[execOp,hv,hey]
  simp[Instr.indexAt,asIntOf,run_underlying hu,hn,(kr ht w').1,Addr.add_lit]
theorem qpt{t:TypeId}{x:Operand}{f off sz:Nat}{agg:Bool}{o ver q:Nat}(hx:qg N s x=.bx o ver q)(hf:y5 E.P t f=some (off,sz,agg))(hsz:Xl sz 0=false)
  (h:AQ E N ops rest K (s.put d (.bx o ver (q+off)))):AQ E N ops (⟨d,.fieldAddr t x f,T,p,af,none⟩::rest) K s:=by
 refine qcl rfl nofun λB0 w0 G a w _ hI=>?_
 have he:=hI.eval_of hx
 generalize hv:a.eval x=v at he
 cases he with
 |bx _ _ _ b hn hv' hb=>
  have hs:sz≠0:=λe=>by subst e;simp at hsz
  exact⟨_,_,λw' _=>by simp only[execOp,hv];simp[qe5 hf hs],.bx o ver _ b hn hv' hb,h⟩
theorem qpu{t:TypeId}{x:Operand}{f off sz:Nat}{agg:Bool}{cs:List AV}(hx:qg N s x=.pp cs)(hf:y5 E.P t f=some (off,sz,agg))(hsz:Xl sz 0=false)(hle:Xm off cs.length=true)
  (h:AQ E N ops rest K (s.put d (.pp (cs.drop off)))):AQ E N ops (⟨d,.fieldAddr t x f,T,p,af,none⟩::rest) K s:=by
 refine qcl rfl nofun λB0 w0 G a w _ hI=>?_
 have he:=hI.eval_of hx
 generalize hv:a.eval x=v at he
 cases he with
 |pp _ b q pub hp hlen hrel=>
  have hs:sz≠0:=λe=>by subst e;simp at hsz
  have ho:off<=cs.length:=Qd hle
  refine⟨.pointer (some ⟨b,q+off,none⟩),_,λw' _=>by simp only[execOp,hv];simp[qe5 hf hs],?_,h⟩
  exact .pp _ b (q+off) pub hp So λi x y h1 h2=>hrel (off+i) x y (by simpa using h1) (by rw[<-h2];congr 1;omega)
theorem qfw{x:Operand}{t:TypeId}{sz:Nat}{agg:Bool}{cs:List AV}{r:AV}(hx:qg N s x=.pp cs)(ht:tyOf E.P t=some (sz,agg))(hr:ka sz agg 0 cs=some r)
  (h:AQ E N ops rest K (s.put d r)):AQ E N ops (⟨d,.load t x,T,p,af,none⟩::rest) K s:=by
 refine qcl rfl nofun λB0 w0 G a w _ hI=>?_
 have he:=hI.eval_of hx
 generalize hv:a.eval x=v at he
 cases he with
 |pp _ b off pub hp hlen hrel=>
  obtain⟨c,T',fz,hc,hcc⟩:=hI.agree.pub b pub hp
  have hlt:b<w.heap.size:=hI.agree.pub_lt hp
  have key:∀w',Below w.heap.size w w'->∃v,(loadVar t ⟨b,off,none⟩).run E.P w'=.ok v w'∧Rel G r v:=λw' hw'=>by
   have h4':w'.heap[b]?=some (.cells c T' fz):=by rw[hw'.block _ hlt];exact hc
   exact yo (w:=w') (G:=G) (b:=b) (off:=off) ht (λi x hx _=>by
    have hi:=lt_of_getElem? hx
    have hy:pub[off+i]?=some (pub[off+i]'(by omega)):=Zb Om
    refine⟨_,?_,hrel i x _ hx hy⟩
    simp[World.cell?,h4',hcc _ _ hy]) hr
  have hg:∀w',Below w.heap.size w w'->∀j,j<cs.length->w'.cell? ⟨b,off+j,none⟩=some (pub.getD (off+j) undef):=λw' hw' j hj=>by
   have h4':w'.heap[b]?=some (.cells c T' fz):=by rw[hw'.block _ hlt];exact hc
   have hlt2:off+j<pub.length:=Om
   have hy:pub[off+j]?=some (pub.getD (off+j) undef):=by simp[Xo,hlt2]
   simp[World.cell?,h4',hcc _ _ hy]
  have hsame:∀w',Below w.heap.size w w'->∀v,(loadVar t ⟨b,off,none⟩).run E.P w=.ok v w->(loadVar t ⟨b,off,none⟩).run E.P w'=.ok v w':=λw' hw' v hr1=>by
   obtain⟨i1,i2⟩:=kr ht w
   obtain⟨j1,j2⟩:=kr ht w'
   obtain⟨v',h1',_⟩:=key w' hw'
   rw[h1']
   congr 1
   cases agg with
   |false=>
    simp only[ka,cond_false]at hr
    have h0:=lt_of_getElem? hr
    have e1:=hg w (Below.refl _ _) 0 h0
    have e2:=hg w' hw' 0 h0
    rw[Zz]at e1 e2
    simp[loadVar,i2,run_load,e1]at hr1
    simp[loadVar,j2,run_load,e2]at h1'
    rw[<-h1',hr1]
   |true=>
    simp only[ka,cond_true]at hr
    cases hb2:Xm (0+sz) cs.length with
    |false=>rw[hb2]at hr;simp at hr
    |true=>
     have hle:0+sz<=cs.length:=Qd hb2
     have l1:=run_loadCells (P:=E.P) (w:=w) ⟨b,off,none⟩ sz (λj=>pub.getD (off+j) undef) (λj hj=>by rw[Addr.add_lit];exact hg w (Below.refl _ _) j Om)
     have l2:=run_loadCells (P:=E.P) (w:=w') ⟨b,off,none⟩ sz (λj=>pub.getD (off+j) undef) (λj hj=>by rw[Addr.add_lit];exact hg w' hw' j Om)
     simp[loadVar,i1,i2,l1]at hr1
     simp[loadVar,j1,j2,l2]at h1'
     rw[<-h1',hr1]
  obtain⟨v,hrun,hR⟩:=key w (Below.refl _ _)
  exact⟨v,r,λw' hw'=>by simp only[execOp,hv,Instr.loadAt,Instr.sureAddr];simp[hsame w' hw' v hrun],hR,h⟩
theorem q5k{x y:Operand}{t t':TypeId}{k:IntKind}{m n r:Int}(hx:qg N s x=.v (.int k m))(hy:qg N s y=.v (.int k n))(hr:k.wrap (m-n)=r)
  (h:AQ E N ops rest K (s.put d (.v (.int k r)))):AQ E N ops (⟨d,.binOp .sub t x y t',T,p,af,none⟩::rest) K s:=
 qaa _ rfl nofun (λa w he=>by rw[<-hr];simp[execOp,he _ _ hx,he _ _ hy,eqGuard_at_int,binOp,Op.intArith]) h
theorem q1f{x y z:Operand}{t:TypeId}{k k':IntKind}{l:List UInt8}{i j:Nat}(hx:qg N s x=Sv l)(hy:qg N s y=.v (.int k' (i:Int)))(hz:qg N s z=.v (.int k (j:Int)))(hu:E.P.underlying t=some .string)(h1:i<=j)(h2:j<=l.length)
  (h:AQ E N ops rest K (s.put d (Sv ((l.take j).drop i)))):AQ E N ops (⟨d,.slice t x (some y) (some z) none,T,p,af,none⟩::rest) K s:=
 qoa (i:=i) (j:=j) hx hu ⟨_,hy⟩ ⟨_,hz⟩ Om Om Om (by simpa using h)
theorem q1d{x:Operand}{ts:Array TypeId}{t0 e:TypeId}{v:AV}{n:Nat}(hx:qg N s x=v)(hl:lenA v=some n)(ht:ts[0]?=some t0)(hu:E.P.underlying t0=some (.slice e))
  (h:AQ E N ops rest K (s.put d (Iv n))):AQ E N ops (⟨d,.call ⟨.builtin .len,#[x],ts⟩,T,p,af,none⟩::rest) K s:=by
 refine qcl rfl nofun λB0 w0 G a w _ hI=>?_
 have he:=hI.eval_of hx
 have key:∃b c,a.eval x=.slice b n c:=by
  generalize a.eval x=u at he
  cases he<;>simp[lenA]at hl
  case v y=>
   cases u<;>simp at hl
   subst hl
   exact⟨_,_,rfl⟩
  case sl0=>subst hl;exact⟨_,_,rfl⟩
  case sl=>subst hl;exact⟨_,_,rfl⟩
  case os=>subst hl;exact⟨_,_,rfl⟩
 obtain⟨b,c,hv⟩:=key
 refine⟨.int .i64 n,Iv n,λw' _=>?_,.v _,h⟩
 generalize a.eval=ρ at hv
 simp[execOp,resolve,invoke,builtin,Builtin.len_,hv,ht,run_underlying hu,goInt]
theorem qnd{x:Operand}{t:TypeId}{sz:Nat}{agg:Bool}{st loc ext new:List AObj}{k ver off:Nat}{T':TypeId}{cs:List AV}{r:AV}(hs:s.st=((st++loc)++ext)++new)(hx:qg N s x=.bx (st.length+k) ver off)(ho:loc[k]?=some (.cells ver T' cs))(ht:tyOf E.P t=some (sz,agg))(hr:ka sz agg off cs=some r)
  (h:AQ E N ops rest K (s.put d r)):AQ E N ops (⟨d,.load t x,T,p,af,none⟩::rest) K s:=
 qpv hx (by rw[hs];exact qaw ho) ht hr h
end
end Go.Av
namespace Go.Av
open Go Go.RowKit
section
variable {B0 : Nat} {w0 : World} {G : Gh} {st : List AObj} {w : World}
theorem q9.pubOb(h:q9 B0 w0 G st w){o ver:Nat}{T:TypeId}{cs:List AV}(ho:st[o]?=some (.cells ver T cs)):
  ∃vs:List Value,G.le (G.publish (G.ob o).blk vs)∧q9 B0 w0 (G.publish (G.ob o).blk vs) (st.set o .dead) w∧(G.ob o).ver=ver∧(G.publish (G.ob o).blk vs).pub (G.ob o).blk=some vs∧cs.length=vs.length∧
   ∀(i:Nat)(x:AV)(y:Value),cs[i]?=some x->vs[i]?=some y->Rel (G.publish (G.ob o).blk vs) x y:=by
 obtain⟨h0,h1,h2,h3,c,h4,h5,h6⟩:=h.ob o _ ho
 have hle:G.le (G.publish (G.ob o).blk c.toList):=G.le_publish _ _ [] [] (.inl h3)
 refine⟨c.toList,hle,?_,h1,by simp[Gh.publish],by simpa using h5,λi x y hx hy=>(h6 i x y hx (by simpa using hy)).mono hle⟩
 have key:∀(k:Nat)(x:AObj),(st.set o .dead)[k]?=some x->x=.dead∨(k≠o∧st[k]?=some x):=λk x hx=>by
  rcases getElem?_set' _ _ _ _ _ hx with⟨_,e⟩|e
  .exact .inl e
  .exact .inr e
 refine⟨h.below,h.hB,by simp[h.n,Gh.publish],λb vs hb=>?_,λk x hx=>?_,λk k' x x' hne hx hx' hl hl'=>?_⟩
 .simp only[Gh.publish]at hb
  by_cases e:b=(G.ob o).blk
  .rw[if_pos e]at hb
   cases hb
   subst e
   exact⟨c,T,(0,0),h4,λi y hy=>by simpa using hy⟩
  .rw[if_neg e]at hb
   exact h.pub b vs hb
 .rcases key k x hx with rfl |⟨hk,hx⟩
  .trivial
  .refine(h.ob k x hx).mono hle rfl (λhl=>?_) (λ_=>rfl)
   have:=h.sep k o x _ hk hx ho hl trivial
   simp[Gh.publish,this]
 .rcases key k x hx with rfl |⟨hk,hx⟩
  .exact hl.elim
  .rcases key k' x' hx' with rfl |⟨hk',hx'⟩
   .exact hl'.elim
   .exact h.sep k k' x x' hne hx hx' hl hl'
end
section
variable {E : Env} {rd : Option Nat} {N : Nat} {ops : Array Oper} {K : AS → Prop} {s : AS} {rest : List Oper} {d : Option Tmp} {T : TypeId} {p : String} {af : Array Edge}
theorem Inv.pub{B0:Nat}{w0:World}{G:Gh}{a:Act}{w:World}(h:Inv B0 w0 N G s a w){i o ver:Nat}{T':TypeId}{cs:List AV}(hi:s.t i=.bx o ver 0)(ho:s.st[o]?=some (.cells ver T' cs)):
  ∃G',G.le G'∧Inv B0 w0 N G' ⟨Av.put s.t i (.pp cs),s.st.set o .dead,s.df⟩ a w:=by
 obtain⟨vs,hle,hA,hv,hp,hl,hr⟩:=h.agree.pubOb ho
 refine⟨_,hle,hA,h.defers_mono hle,h.size,λj y hy=>?_⟩
 have hj:=h.tmps j y hy
 by_cases e:j=i
 .subst e
  simp only[wp]
  rw[hi]at hj
  cases hj with
  |bx _ _ _ b hn hv' hb=>
   have hb:=hb hv
   subst hb
   exact .pp cs _ 0 vs hp Om λk x y hx hy=>hr k x y hx (by simpa using hy)
 .simp only
  rw[yh _ _ _ _ e]
  exact hj.mono hle
theorem qr5{x y:Operand}{t:TypeId}{sz:Nat}{agg:Bool}{st loc loc' ext new:List AObj}{k ver off:Nat}{T':TypeId}{cs xs:List AV}{r:AV}(hs:s.st=((st++loc)++ext)++new)(hx:qg N s x=.bx (st.length+k) ver off)(hy:qg N s y=r)(ho:loc[k]?=some (.cells ver T' cs))(ht:tyOf E.P t=some (sz,agg))
  (hok:r.okc=true) (hc:r.cells=xs) (hsz:Xl xs.length sz=true) (h1:jl xs=true) (hfit:Xm (off+sz) cs.length=true) (hl:loc'=loc.set k (.cells ver T' (zt cs off xs)))
  (h:AOps E rd N ops rest K (AS.put ⟨s.t,((st++loc')++ext)++new,s.df⟩ d (.v undef))):AOps E rd N ops (⟨d,.store t x y,T,p,af,none⟩::rest) K s:=by
 have hk:=lt_of_getElem? ho
 exact qbg hx hy (by rw[hs];exact qaw ho) ht hok hc hsz h1 hfit (by rw[hs,qdv _ hk,<-hl];exact h)
end
theorem qcd{α:Type}(l:List α)(a:α):(l++[a]).length=l.length+1:=Sx
theorem qsj{α:Type}(l:List α)(a:α):Iv ((l.length:Int)+1)=Iv ((l++[a]).length:Nat):=by rw[qcd];rfl
theorem zax{α:Type}{sz:Nat}{tip:Option Nat}(x0:AV)(g:α->AV)(pre:List α)(a:α)(v:AV)(h:v=g a):AV.sl sz ((x0::pre.map g)++[v]) tip=AV.sl sz (x0::(pre++[a]).map g) tip:=by rw[Zg,h];rfl
theorem qpr{E:Env}{rd:Option Nat}{N:Nat}{ops:Array Oper}{K:AS->Prop}{s:AS}{rest:List Oper}{d:Option Tmp}{T:TypeId}{p:String}{af:Array Edge}{x y:Operand}{t:TypeId}{sz:Nat}{agg:Bool}{st loc ext new:List AObj}{k ver off:Nat}{T':TypeId}{cs xs:List AV}{r:AV}(hs:s.st=((st++loc)++ext)++new)(hx:qg N s x=.bx (st.length+k) ver off)(hy:qg N s y=r)(ho:loc[k]?=some (.cells ver T' cs))(ht:tyOf E.P t=some (sz,agg))
  (hok:r.okc=true) (hc:r.cells=xs) (hsz:xs.length=sz) (h1:jl xs=true) (hfit:off+sz<=cs.length)
  (h:AOps E rd N ops rest K (AS.put ⟨s.t,((st++loc.set k (.cells ver T' (zt cs off xs)))++ext)++new,s.df⟩ d (.v undef))):AOps E rd N ops (⟨d,.store t x y,T,p,af,none⟩::rest) K s:=by
 have hk:=lt_of_getElem? ho
 exact qcj hx hy (by rw[hs];exact qaw ho) ht hok hc hsz (by simpa[jl]using h1) hfit (by rw[hs,qdv _ hk];exact h)
theorem qdl{E:Env}{rd:Option Nat}{N:Nat}{c:Code}{Q:Exit->AS->Prop}{s:AS}{α:Type}(xs:List α)(I:List α->AS->Prop)(h0:I [] s)(hend:∀s,I xs s->AWp E rd N c (qvw (λ_=>False) Q) s)
  (hstep:∀pre a rest s,xs=pre++a::rest->I pre s->AWp E rd N c (qvw (λs'=>I (pre++[a]) s') Q) s):AWp E rd N (.loop c) Q s:=by
 refine ko (λ(x:List α×List α)s=>xs=x.1++x.2∧I x.1 s) (λx=>x.2.length) ([],xs) ⟨rfl,h0⟩ ?_
 rintro⟨pre,rest⟩ s ⟨hx,hi⟩
 cases rest with
 |nil=>
  simp only[Zh]at hx
  subst hx
  refine(hend s hi).mono λe s' h=>?_
  cases e with
  |normal=>exact h.elim
  |_=>exact h
 |cons a rest=>
  refine(hstep pre a rest s hx hi).mono λe s' h=>?_
  cases e with
  |normal=>exact⟨(pre++[a],rest),⟨by rw[hx];simp,h⟩,Sx⟩
  |_=>exact h
end Go.Av
namespace Go.Pl
open Go Go.Proofs
abbrev Fld:=qd×qd
def qam(s:qd):Prop:=∀c∈s,vr c
instance (s:qd):Decidable (qam s):=inferInstanceAs (Decidable (∀c∈s,vr c))
def kz(s:qd):qd:=if qam s∨s.head?=some 46 then 46::s else s
def jn(key p:qd):qd:=key++[58]++if p=[]then []else [32]++p
def zh(f:Fld):List qd:=jn f.1 ((qv f.2).headD [])::(qv f.2).tail.map λs=>[32]++kz s
def zb(ls:List qd):qd:=ls.flatMap λs=>s++[10]
def zu(xs:List Fld):qd:=xs.flatMap λf=>zb (zh f)
def j5(f:Fld):Int:=if¬x4 f.1 then 5 else if 1000<f.2.length then 6 else 0
def j7(f:Fld):Prop:=x4 f.1∧f.2.length<=1000
instance (f:Fld):Decidable (j7 f):=inferInstanceAs (Decidable (_∧_))
theorem qan(f:Fld):j5 f=0↔j7 f:=by
 unfold j5 j7
 by_cases h:x4 f.1
 .by_cases h2:1000<f.2.length
  .simp[h,h2]
  .simp[h,h2];omega
 .simp[h]
def vo(c:UInt8)(l:qd):qd:=if l.head?=some c then l.drop 1 else l
theorem qs2(c:UInt8)(l:qd):Lib.trimPrefix l [c]=vo c l:=by
 unfold Lib.trimPrefix vo
 rw[qkw]
 simp
def yy(l:qd)(r:List qd):qd:=vo 32 (jw l)++r.flatMap λs=>[10]++vo 46 (s.drop 1)
def qpd(ls:List qd):Prop:=ls≠[]∧qn (ls.headD [])=4∧∀s∈ls.tail,qn s=3
instance (ls:List qd):Decidable (qpd ls):=inferInstanceAs (Decidable (_∧_∧_))
def z7(ls:List qd):Fld×Int:=
 if qpd ls then
  if 1000<(yy (ls.headD []) ls.tail).length then(([],[]),6)else((zx (ls.headD []),yy (ls.headD []) ls.tail),0)
 else(([],[]),2)
theorem qed(l:qd):qv l≠[]:=by
 by_cases h:10∈l
 .rw[xf h];simp
 .rw[xg h];simp
theorem qj7(l:qd):qv l=(qv l).headD []::(qv l).tail:=by
 cases h:qv l with
 |nil=>exact absurd h (qed l)
 |cons a r=>rfl
theorem qf5:∀(n:Nat)(l:qd),l.length<=n->(qv l).headD []++(qv l).tail.flatMap (λs=>[10]++s)=l
 |n,l,hn=>by
  by_cases h:10∈l
  .rw[xf h]
   have hne:l≠[]:=λe=>by subst e;simp at h
   have hlt:=wx (c:=10) hne
   cases n with
   |zero=>omega
   |succ n=>
    have ih:=qf5 n (past 10 l) Om
    simp only[Zn,Zu]
    rw[qj7 (past 10 l)]
    simp only[Qq]
    rw[Qj,ih]
    have:=yn h
    simp[<-this]
  .rw[xg h];simp
theorem qcs(l:qd):∀x∈qv l,10∉x:=λx hx=>(qfr l.length l (Qc _) x hx).2
theorem qc2(l:qd):∀x∈qv l,x.length<=l.length:=λx hx=>(qfr l.length l (Qc _) x hx).1
theorem qom(l:qd):(qv l).headD []∈qv l:=by
 have h:=qed l
 cases e:qv l with
 |nil=>exact absurd e h
 |cons a r=>simp
theorem q06(s:qd):vo 46 (kz s)=s:=by
 unfold kz vo
 by_cases h:qam s∨s.head?=some 46
 .rw[if_pos h];simp
 .rw[if_neg h,if_neg (λh'=>h (.inr h'))]
theorem qs0(s:qd):¬qam (kz s):=by
 unfold kz
 by_cases h:qam s∨s.head?=some 46
 .rw[if_pos h]
  intro h'
  have:=h' 46 Sx
  revert this;decide
 .rw[if_neg h]
  exactλh'=>h (.inl h')
theorem qrs{s:qd}(h:10∉s):10∉kz s:=by
 unfold kz
 split
 .simp[h]
 .exact h
theorem qun(s:qd):(kz s).length<=s.length+1:=by
 unfold kz
 split <;>simp
theorem qt3(s:qd)(h:10∉s):qn ([32]++kz s)=3:=by
 have hn:=qrs h
 have hb:=qs0 s
 unfold qn
 have h10:10∉([32]++kz s):=by simp[hn]
 rw[if_neg h10,if_neg (λh'=>hb λc hc=>h' c (by simp[hc])),if_neg Sx,if_pos ⟨32,Sx,.inl rfl⟩]
theorem qip{k r:qd}(h:58∉k):zx (k++[58]++r)=k:=by
 unfold zx
 induction k with
 |nil=>simp
 |cons a k ih=>
  simp only[Qo,not_or]at h
  have:(58:UInt8)≠a:=h.1
  simp only[Zl,Zy]
  rw[if_pos (by simpa usingλe=>this e.symm)]
  rw[ih h.2]
theorem qyu{k r:qd}(h:58∉k):jw (k++[58]++r)=r:=by
 unfold jw
 rw[qip h]
 rw[Zi Sx]
 simp
theorem qh6{k:qd}(h:x4 k):∃c,k.head?=some c∧¬vr c∧c≠35:=by
 obtain⟨h1,h2,h3,h4,h5,h6⟩:=h
 cases k with
 |nil=>exact absurd rfl h1
 |cons a r=>exact⟨a,rfl,λhb=>h3 ⟨a,rfl,hb⟩,λe=>h4 (by simp[e])⟩
theorem qt2{k p:qd}(h:x4 k)(hp:10∉p):qn (jn k p)=4:=by
 obtain⟨c,hc,hb,h35⟩:=qh6 h
 have hk10:10∉k:=h.2.2.2.2.2
 have hk58:58∉k:=h.2.2.2.2.1
 have hh:(jn k p).head?=some c:=by
  unfold jn
  cases k with
  |nil=>simp at hc
  |cons a r=>simpa using hc
 have e:jn k p=k++[58]++(if p=[]then []else [32]++p):=rfl
 have h10:10∉jn k p:=by
  rw[e]
  split <;>simp[hk10,hp]
 have hmem:c∈jn k p:=Xe hh
 unfold qn
 rw[if_neg h10,if_neg (λh'=>hb (h' c hmem)),if_neg (by rw[hh];simpa using h35),if_neg (λ⟨d,hd,hd'⟩=>by rw[hh]at hd;cases hd;exact hb hd')]
 rw[if_pos]
 refine⟨by rw[e];simp,?_⟩
 rw[e,qip hk58]
 exact h
theorem q6j(k p:qd)(h:58∉k):vo 32 (jw (jn k p))=p:=by
 unfold jn
 rw[qyu h]
 by_cases hp:p=[]
 .rw[if_pos hp];simp[vo,hp]
 .rw[if_neg hp];simp[vo]
theorem qu8{f:Fld}(h:j7 f):z7 (zh f)=(f,0):=by
 obtain⟨hk,hv⟩:=h
 have hk58:58∉f.1:=hk.2.2.2.2.1
 have h10:=qcs f.2
 have hval:yy (jn f.1 ((qv f.2).headD [])) ((qv f.2).tail.map λs=>[32]++kz s)=f.2:=by
  unfold yy
  rw[q6j _ _ hk58]
  have:((qv f.2).tail.map λs=>[32]++kz s).flatMap (λs=>[10]++vo 46 (s.drop 1))=(qv f.2).tail.flatMap (λs=>[10]++s):=by
   rw[List.flatMap_map]
   congr 1
   funext s
   simp[q06]
  rw[this,qf5 _ _ (Qc _)]
 unfold z7 zh
 rw[if_pos]
 .simp only[Zn,Zu]
  refine(if_neg (by rw[hval];omega)).trans ?_
  have:zx (jn f.1 ((qv f.2).headD []))=f.1:=qip hk58
  rw[this,hval]
 .refine⟨Sx,?_,?_⟩
  .simp only[Zn]
   exact qt2 hk (h10 _ (qom _))
  .intro s hs
   simp only[Zu,Xa]at hs
   obtain⟨x,hx,rfl⟩:=hs
   exact qt3 x (h10 x (List.mem_of_mem_tail hx))
end Go.Pl
namespace Go.Av
open Go Go.RowKit
section
variable {E : Env} {rd : Option Nat} {N : Nat} {ops : Array Oper} {K : AS → Prop} {s : AS} {rest : List Oper} {d : Option Tmp} {T : TypeId} {p : String} {af : Array Edge}
theorem xq{t e:TypeId}{len sz:Nat}{agg:Bool}{parts:Array (Nat×Operand)}{zs cs:List AV}{st loc:List AObj}(hst:s.st=st++loc)(hu:E.P.underlying t=some (.slice e))(ht:tyOf E.P e=some (sz,agg))(hz:qc4 E.P e len=some zs)
  (hf:qa7 (λi=>some (i*sz,sz)) zs (kv N s parts)=some cs) (hsz:Xm (len*sz) 16777216=true)
  (h:AOps E rd N ops rest K (AS.put ⟨s.t,st++(loc++[.cells 0 e cs]),s.df⟩ d (.os (st.length+loc.length) 0 0 len len))):AOps E rd N ops (⟨d,.buildSlice t len parts,T,p,af,none⟩::rest) K s:=by
 refine qw rfl (qu nofun λB0 w0 G a w _ hI=>?_)
 obtain⟨c',hrun,h2⟩:=qi1 (d:=d) (T:=T) (p:=p) (af:=af) hI hu ht hz hf hsz
 have hA:=hI.agree.newCells e c' cs h2.1 h2.2
 have hn:=hI.agree.n
 rw[hst]at hA hn
 simp only[Qj,Qa]at hA hn
 exact⟨_,_,_,_,_,hrun,G.le_new _ _ _ _,hA,.os _ _ _ _ _ _ (by simp[Gh.new,hn]) (Zq _) (λ_=>by simp[Gh.new,hn]),h⟩
theorem q9.ownTip{B0:Nat}{w0:World}{G:Gh}{st:List AObj}{w:World}(h:q9 B0 w0 G st w){o sz len cap:Nat}{T:TypeId}{cs:List AV}{xs:List AV}(ho:st[o]?=some (.cells 0 T cs))(hc:cs.length=cap*sz)(hlen:xs.length=len)(h0:0<len)(hle:len<=cap)(hcm:cap<=maxLen)(hw:∀x∈xs,x.cells.length=sz)(hfl:flat xs=cs.take (len*sz)):
  ∃G',G.le G'∧q9 B0 w0 G' (st.set o (.tip len sz T)) w∧Rel G' (.sl sz xs (some o)) (.slice (some ⟨(G.ob o).blk,0,none⟩) len cap):=by
 subst hlen
 have hon:=lt_of_getElem? ho
 obtain⟨g0,g1,g2,g3,c,g4,g5,g6⟩:=h.ob o _ ho
 have hle1:G.le (G.publish (G.ob o).blk (c.toList.take (xs.length*sz))):=G.le_publish _ _ [] [] (.inl g3)
 -- dead, published
 have key:∀(k:Nat)(x:AObj),(st.set o .dead)[k]?=some x->x=.dead∨(k≠o∧st[k]?=some x):=λk x hx=>by
  rcases getElem?_set' _ _ _ _ _ hx with⟨_,e⟩|e
  .exact .inl e
  .exact .inr e
 have hA1:q9 B0 w0 (G.publish (G.ob o).blk (c.toList.take (xs.length*sz))) (st.set o .dead) w:=by
  refine⟨h.below,h.hB,by simp[h.n,Gh.publish],λb vs hb=>?_,λk x hx=>?_,λk k' x x' hne hx hx' hl hl'=>?_⟩
  .simp only[Gh.publish]at hb
   by_cases e:b=(G.ob o).blk
   .rw[if_pos e]at hb
    cases hb
    subst e
    refine⟨c,T,(0,0),g4,λi y hy=>?_⟩
    rw[Qm]at hy
    split at hy
    .simpa using hy
    .simp at hy
   .rw[if_neg e]at hb
    exact h.pub b vs hb
  .rcases key k x hx with rfl |⟨hk,hx⟩
   .trivial
   .refine(h.ob k x hx).mono hle1 rfl (λhl=>?_) (λ_=>rfl)
    have:=h.sep k o x _ hk hx ho hl trivial
    simp[Gh.publish,this]
  .rcases key k x hx with rfl |⟨hk,hx⟩
   .exact hl.elim
   .rcases key k' x' hx' with rfl |⟨hk',hx'⟩
    .exact hl'.elim
    .exact h.sep k k' x x' hne hx hx' hl hl'
 have hvl:(c.toList.take (xs.length*sz)).length=xs.length*sz:=by
  have:xs.length*sz<=cap*sz:=Qg _ hle
  simp
  omega
 obtain⟨hle2,hA2⟩:=hA1.setTip (t:=o) (n:=0) (n':=xs.length) (k:=(G.ob o).blk) (cap:=c.size) (sz:=sz) (T:=T) (c:=c) (vs:=c.toList.take (xs.length*sz)) (by simp[hon]) g0 g1 h0 g4 (by simp[Gh.publish]) hvl rfl g2 (λk x hx hl=>by
  rcases key k x hx with rfl |⟨hk,hx⟩
  .exact hl.elim
  .exact h.sep k o x _ hk hx ho hl trivial)
 rw[Xb]at hA2
 refine⟨_,hle1.trans hle2,hA2,?_⟩
 have hgn:o<G.n:=by rw[h.n];exact hon
 refine .sl sz xs (some o) (G.ob o).blk 0 cap (c.toList.take (xs.length*sz)) (by simp[Gh.setOb,Gh.publish]) hw (by rw[hfl,hvl];simp;omega) (λi x y h1 h2=>?_) (λt ht=>?_) Om
 .rw[hfl]at h1
  rw[Qs]at h2
  rw[Qm]at h1 h2
  split at h1
  .rename_i hi
   rw[if_pos hi]at h2
   exact((g6 i x y h1 (by simpa using h2)).mono hle1).mono hle2
  .simp at h1
 .simp only[Qx]at ht
  subst ht
  refine⟨by simpa[Gh.setOb,Gh.publish]using hgn,Om,by simp[Gh.setOb],λ_=>⟨by simp[Gh.setOb],rfl,by simp[Gh.setOb,<-g5,hc],hcm,Om⟩⟩
theorem Inv.osTip{B0:Nat}{w0:World}{G:Gh}{a:Act}{w:World}(h:Inv B0 w0 N G s a w){i o sz len cap:Nat}{T':TypeId}{cs xs:List AV}(hi:s.t i=.os o 0 0 len cap)(ho:s.st[o]?=some (.cells 0 T' cs))(hc:cs.length=cap*sz)(hlen:xs.length=len)(h0:0<len)(hle:len<=cap)(hcm:cap<=maxLen)(hw:∀x∈xs,x.cells.length=sz)(hfl:flat xs=cs.take (len*sz)):
  ∃G',G.le G'∧Inv B0 w0 N G' ⟨Av.put s.t i (.sl sz xs (some o)),s.st.set o (.tip len sz T'),s.df⟩ a w:=by
 obtain⟨G',hG,hA,hR⟩:=h.agree.ownTip ho hc hlen h0 hle hcm hw hfl
 obtain⟨_,g1,_⟩:=h.agree.ob o _ ho
 refine⟨G',hG,hA,h.defers_mono hG,h.size,λj y hy=>?_⟩
 have hj:=h.tmps j y hy
 by_cases e:j=i
 .subst e
  simp only[wp]
  rw[hi]at hj
  cases hj with
  |os _ _ _ _ b _ hn hv hb=>
   have hb:=hb g1
   subst hb
   exact hR
 .simp only
  rw[yh _ _ _ _ e]
  exact hj.mono hG
theorem q5q{c:Code}{Q:Exit->AS->Prop}(i:Nat){o sz len cap:Nat}{T':TypeId}{cs xs:List AV}(hi:s.t i=.os o 0 0 len cap)(ho:s.st[o]?=some (.cells 0 T' cs))(hc:cs.length=cap*sz)(hlen:xs.length=len)(h0:0<len)(hle:len<=cap)(hcm:cap<=maxLen)(hw:∀x∈xs,x.cells.length=sz)(hfl:flat xs=cs.take (len*sz))
  (h:AWp E rd N c Q ⟨Av.put s.t i (.sl sz xs (some o)),s.st.set o (.tip len sz T'),s.df⟩):AWp E rd N c Q s:=
 ⟨λB0 w0 G a w hL hI=>let ⟨G1,h1,h2⟩:=hI.osTip hi ho hc hlen h0 hle hcm hw hfl;wpIn_mono (h.run B0 w0 _ a w hL h2) λ_ _ _ ⟨G',s',hG,k1,k2⟩=>⟨G',s',h1.trans hG,k1,k2⟩⟩
theorem q2x{l:List Oper}(i:Nat){o sz len cap:Nat}{T':TypeId}{cs xs:List AV}(hi:s.t i=.os o 0 0 len cap)(ho:s.st[o]?=some (.cells 0 T' cs))(hc:cs.length=cap*sz)(hlen:xs.length=len)(h0:0<len)(hle:len<=cap)(hcm:cap<=maxLen)(hw:∀x∈xs,x.cells.length=sz)(hfl:flat xs=cs.take (len*sz))
  (h:AOps E rd N ops l K ⟨Av.put s.t i (.sl sz xs (some o)),s.st.set o (.tip len sz T'),s.df⟩):AOps E rd N ops l K s:=
 ⟨λB0 w0 G a w hL hI Q hQ=>let ⟨G1,h1,h2⟩:=hI.osTip hi ho hc hlen h0 hle hcm hw hfl;h.run B0 w0 _ a w hL h2 Q λG' s' a' w' hG k1 k2=>hQ G' s' a' w' (h1.trans hG) k1 k2⟩
theorem Inv.osPub{B0:Nat}{w0:World}{G:Gh}{a:Act}{w:World}(h:Inv B0 w0 N G s a w){i o ver off sz len cap:Nat}{T':TypeId}{cs xs:List AV}(hi:s.t i=.os o ver off len cap)(ho:s.st[o]?=some (.cells ver T' cs))(hlen:xs.length=len)(hle:len<=cap)(hw:∀x∈xs,x.cells.length=sz)(hin:off+len*sz<=cs.length)(hfl:flat xs=(cs.drop off).take (len*sz)):
  ∃G',G.le G'∧Inv B0 w0 N G' ⟨Av.put s.t i (.sl sz xs none),s.st.set o .dead,s.df⟩ a w:=by
 obtain⟨vs,hle1,hA,hv,hp,hl,hr⟩:=h.agree.pubOb ho
 refine⟨_,hle1,hA,h.defers_mono hle1,h.size,λj y hy=>?_⟩
 have hj:=h.tmps j y hy
 by_cases e:j=i
 .subst e
  simp only[wp]
  rw[hi]at hj
  cases hj with
  |os _ _ _ _ b _ hn hv' hb=>
   have hb:=hb hv
   subst hb
   rw[<-hlen]
   refine .sl sz xs none _ off cap vs hp hw (by rw[hfl];simp;omega) (λk x y hx hy=>?_) (λt ht=>by simp at ht) Om
   rw[hfl,Qm]at hx
   split at hx
   .rw[Qk]at hx
    exact hr _ x y hx hy
   .simp at hx
 .simp only
  rw[yh _ _ _ _ e]
  exact hj.mono hle1
theorem qrp{P:Program}{t e:TypeId}{sz:Nat}{agg:Bool}(hu:P.underlying t=some (.slice e))(ht:tyOf P e=some (sz,agg))(a:Option Addr)(len cap:Nat)(lo hi:Option Value)(i j:Nat)(w:World)
  (hlo:match lo with|none=>i=0|some v=>∃k,v=.int k (i:Int)) (hhi:match hi with|none=>j=len|some v=>(∃k,v=.int k (j:Int))∧j<=cap) (h1:i<=j):
  (Instr.slice t (.slice a len cap) lo hi none).run P w=.ok (.slice (if cap=i then a else a.map (·.add (i*sz))) (j-i) (cap-i)) w:=by
 have hs:=(kr ht w).1
 cases lo with
 |none=>
  simp only at hlo
  subst hlo
  cases hi with
  |none=>
   simp only at hhi
   subst hhi
   simp[Instr.slice,run_underlying hu,Instr.sliceBounds,hs]
  |some v=>
   obtain⟨⟨k,rfl⟩,h2⟩:=hhi
   simp[Instr.slice,run_underlying hu,Instr.sliceBounds,Instr.sliceBound,asIntOf,hs,h2]
 |some u=>
  obtain⟨k',rfl⟩:=hlo
  cases hi with
  |none=>
   simp only at hhi
   subst hhi
   simp[Instr.slice,run_underlying hu,Instr.sliceBounds,Instr.sliceBound,asIntOf,hs,h1]
  |some v=>
   obtain⟨⟨k,rfl⟩,h2⟩:=hhi
   simp[Instr.slice,run_underlying hu,Instr.sliceBounds,Instr.sliceBound,asIntOf,hs,h1,h2]
theorem qrk{G:Gh}{sz:Nat}{xs:List AV}{tip:Option Nat}{a:Option Addr}{len cap:Nat}(h:Rel G (.sl sz xs tip) (.slice a len cap)){i j:Nat}(h1:i<=j)(h2:j<=xs.length):
  len=xs.length∧len<=cap∧Rel G (.sl sz ((xs.take j).drop i) none) (.slice (if cap=i then a else a.map (·.add (i*sz))) (j-i) (cap-i)):=by
 cases h with
 |sl0=>
  simp at h2
  subst h2
  have:i=0:=Om
  subst this
  refine⟨rfl,Zq _,?_⟩
  simp
  exact .sl0 sz none _ _ Sx
 |sl _ _ _ b off cap pub hp hw hlen hr ht hcap=>
  refine⟨rfl,hcap,?_⟩
  have hl:((xs.take j).drop i).length=j-i:=So
  by_cases hji:j=i
  .subst hji
   have e:(xs.take j).drop j=[]:=Zm.1 (by rw[hl];omega)
   rw[e,Nat.sub_self]
   exact .sl0 sz none _ _ Sx
  .have hne:cap≠i:=by omega
   rw[if_neg hne]
   simp only[Xh]
   have hadd:Addr.add ⟨b,off,none⟩ (i*sz)=⟨b,off+i*sz,none⟩:=Addr.add_lit ..
   rw[hadd,<-hl]
   have hw':∀x∈(xs.take j).drop i,x.cells.length=sz:=λx hx=>hw x (Zx (List.mem_of_mem_drop hx))
   have hfx:(flat xs).length=xs.length*sz:=zk hw
   have hsplit:flat xs=flat (xs.take i)++flat ((xs.take j).drop i)++flat (xs.drop j):=by
    have e:xs.take i++(xs.take j).drop i=xs.take j:=by
     conv=>rhs;rw[<-Zv i (xs.take j),List.take_take,Zo h1]
    rw[<-va,<-va,e,Zv]
   have hti:(flat (xs.take i)).length=i*sz:=by
    rw[zk (λx hx=>hw x (Zx hx)),List.length_take,Zo Om]
   have hmid:(flat ((xs.take j).drop i)).length=(j-i)*sz:=by rw[zk hw',hl]
   refine .sl sz _ none b (off+i*sz) (cap-i) pub hp hw' ?_ (λk x y hx hy=>?_) (λt ht=>by simp at ht) (by rw[hl];omega)
   .have:=congrArg Zr hsplit
    simp only[Qa]at this
    omega
   .refine hr (i*sz+k) x y ?_ (by rw[<-hy];congr 1;omega)
    have hk:=lt_of_getElem? hx
    rw[hsplit,Qj,Qi Om,hti,Nat.add_sub_cancel_left,Qb hk]
    exact hx
theorem qzq{x:Operand}{t e:TypeId}{lo hi:Option Operand}{sz:Nat}{agg:Bool}{xs ys:List AV}{tip:Option Nat}{i j:Nat}(hx:qg N s x=.sl sz xs tip)(hu:E.P.underlying t=some (.slice e))(ht:tyOf E.P e=some (sz,agg))
  (hlo:match lo with|none=>i=0|some y=>∃k,qg N s y=.v (.int k (i:Int))) (hhi:match hi with|none=>j=xs.length|some y=>∃k,qg N s y=.v (.int k (j:Int))) (h1:i<=j) (h2:j<=xs.length) (hy:(xs.take j).drop i=ys)
  (h:AOps E rd N ops rest K (s.put d (.sl sz ys none))):AOps E rd N ops (⟨d,.slice t x lo hi none,T,p,af,none⟩::rest) K s:=by
 subst hy
 refine qw rfl (qu nofun λB0 w0 G a w _ hI=>?_)
 have he:=hI.eval_of hx
 generalize hv:a.eval x=v at he
 have hsl:∃b len cap,v=.slice b len cap:=by cases he<;>exact⟨_,_,_,rfl⟩
 obtain⟨b,len,cap,rfl⟩:=hsl
 obtain⟨hl,hlc,hr⟩:=qrk he h1 h2
 refine⟨_,w,G,_,s.st,?_,.refl G,hI.agree,hr,h⟩
 have hrun:=qrp hu ht b len cap (lo.map a.eval) (hi.map a.eval) i j w (by
  cases lo with
  |none=>exact hlo
  |some y=>obtain⟨k,hy⟩:=hlo;exact⟨k,hI.evalv hy⟩) (by
  cases hi with
  |none=>simp only at hhi;simp only[Option.map_none];omega
  |some y=>obtain⟨k,hy⟩:=hhi;exact⟨⟨k,hI.evalv hy⟩,Om⟩) h1
 generalize a.eval=ρ at hv hrun
 simp only[execOp,hv]
 simp[Instr.sliceAt,run_underlying hu,hrun]
theorem qiy{x y:Operand}{t e:TypeId}{sz:Nat}{agg:Bool}{xs ys:List AV}{tip:Option Nat}{k:IntKind}{i:Nat}(hx:qg N s x=.sl sz xs tip)(hy:qg N s y=.v (.int k (i:Int)))(hu:E.P.underlying t=some (.slice e))(ht:tyOf E.P e=some (sz,agg))(h1:i<=xs.length)(hz:xs.drop i=ys)
  (h:AOps E rd N ops rest K (s.put d (.sl sz ys none))):AOps E rd N ops (⟨d,.slice t x (some y) none none,T,p,af,none⟩::rest) K s:=
 qzq (i:=i) (j:=xs.length) hx hu ht ⟨k,hy⟩ rfl h1 (Qc _) (by rw[List.take_length];exact hz) h
end
end Go.Av
namespace Go.Av
open Go Go.RowKit
inductive Vec (sz:Nat) (T:TypeId) (o:Nat) (xs:List AV):AV->AObj->Prop
 |nil (h:xs=[]):Vec sz T o xs z0 (.tip 0 sz T)
 |os (ver cap:Nat) (pad:List AV) (hl:(flat xs++pad).length=cap*sz) (hw:∀x∈xs,x.cells.length=sz) (hle:xs.length<=cap) (hcm:cap<=maxLen):Vec sz T o xs (.os o ver 0 xs.length cap) (.cells ver T (flat xs++pad))
section
variable {B0 : Nat} {w0 : World} {G : Gh} {st : List AObj} {w : World}
theorem q9.setCells(h:q9 B0 w0 G st w){t k cap v':Nat}{T:TypeId}{cs:List AV}(ht:st[t]?=some .dead)(hraw:(G.ob t).raw=false)(hver:(G.ob t).ver<v')
  {c:Array Value} (hc:w.heap[k]?=some (.cells c T (0,0))) (hp:G.pub k=none) (hl:cs.length=c.size) (hr:∀(i:Nat)(x:AV)(y:Value),cs[i]?=some x->c[i]?=some y->Rel G x y) (hk:B0<=k) (hs:∀o x,st[o]?=some x->x.live->(G.ob o).blk≠k):
  G.le (G.setOb t ⟨v',k,cap,false⟩)∧q9 B0 w0 (G.setOb t ⟨v',k,cap,false⟩) (st.set t (.cells v' T cs)) w:=by
 have hle:=G.le_setOb t ⟨v',k,cap,false⟩ hver hraw
 have hob:∀o,o≠t->(G.setOb t ⟨v',k,cap,false⟩).ob o=G.ob o:=λo ho=>by simp[Gh.setOb,ho]
 have hobt:(G.setOb t ⟨v',k,cap,false⟩).ob t=⟨v',k,cap,false⟩:=by simp[Gh.setOb]
 refine⟨hle,h.below,h.hB,by simp[h.n,Gh.setOb],h.pub,λo x hx=>?_,λo o' x x' hne hx hx' hl1 hl2=>?_⟩
 .rcases getElem?_set' _ _ _ _ _ hx with⟨rfl,rfl⟩|⟨ho,hx⟩
  .exact⟨by rw[hobt],by rw[hobt],by rw[hobt];exact hk,by rw[hobt];exact hp,c,by rw[hobt];exact hc,hl,λi x y h1 h2=>(hr i x y h1 h2).mono hle⟩
  .exact(h.ob o x hx).mono hle (hob o ho) (λ_=>rfl) (λ_=>rfl)
 .rcases getElem?_set' _ _ _ _ _ hx with⟨e1,e2⟩|⟨ho,hx⟩
  .rcases getElem?_set' _ _ _ _ _ hx' with⟨e3,_⟩|⟨ho',hx'⟩
   .exact absurd (e1.trans e3.symm) hne
   .rw[e1,hobt,hob o' ho']
    exact(hs o' x' hx' hl2).symm
  .rcases getElem?_set' _ _ _ _ _ hx' with⟨e3,_⟩|⟨ho',hx'⟩
   .rw[e3,hobt,hob o ho]
    exact hs o x hx hl1
   .rw[hob o ho,hob o' ho']
    exact h.sep o o' x x' hne hx hx' hl1 hl2
theorem x2{G:Gh}{cs ds:List AV}{vs us:List Value}(hl:cs.length=vs.length)(h1:∀(i:Nat)(x:AV)(y:Value),cs[i]?=some x->vs[i]?=some y->Rel G x y)(h2:∀(i:Nat)(x:AV)(y:Value),ds[i]?=some x->us[i]?=some y->Rel G x y):
  ∀(i:Nat)(x:AV)(y:Value),(cs++ds)[i]?=some x->(vs++us)[i]?=some y->Rel G x y:=λi x y hx hy=>by
 by_cases hi:i<cs.length
 .rw[Qb hi]at hx
  rw[Qb Om]at hy
  exact h1 i x y hx hy
 .rw[Qi Om]at hx
  rw[Qi Om,<-hl]at hy
  exact h2 _ x y hx hy
theorem qfl{P:Program}(hA:q9 B0 w0 G st w){tt u ty T:TypeId}{du:TypeDesc}(htt:P.underlying tt=some (.slice T))(hu:P.underlying u=some du)(hd:qgn du)
  {sz bytes:Nat} (hT:wm P T sz bytes) {o:Nat} {xs ys:List AV} {a:AV} {ob:AObj} {v x:Value} (hV:Vec sz T o xs a ob) (ho:st[o]?=some ob) (hv:Rel G a v)
  {news:List Value} (hx:Src P w x ys.length sz news) (hys:∀y∈ys,y.cells.length=sz) (hrel:∀(i:Nat)(a:AV)(b:Value),(flat ys)[i]?=some a->news[i]?=some b->Rel G a b)
  (h63:xs.length+ys.length<=maxLen) (hbytes:(xs.length+ys.length)*bytes<=140737488355328):
  ∃v' w' G' a' ob',(Builtin.append_ #[tt,u] ty #[v,x]).run P w=.ok v' w'∧G.le G'∧q9 B0 w0 G' (st.set o ob') w'∧Rel G' a' v'∧Vec sz T o (xs++ys) a' ob':=by
 obtain⟨i,z,hi,hz,rfl,rfl,hzs⟩:=hT.ex
 have hon:=lt_of_getElem? ho
 have htn:o<G.n:=by rw[hA.n];exact hon
 have hraw:(G.ob o).raw=false:=by
  have:=hA.ob o _ ho
  cases hV with
  |nil h=>exact this.1
  |os=>exact this.1
 have hk:=hA.kill o
 have hkt:(st.set o .dead)[o]?=some .dead:=wc ho
 have hother:∀k x,(st.set o .dead)[k]?=some x->x.live->k≠o∧st[k]?=some x:=λk x hx hl=>by
  rcases getElem?_set' _ _ _ _ _ hx with⟨_,e⟩|⟨h1,h2⟩
  .subst e;exact hl.elim
  .exact⟨h1,h2⟩
 have hself:st.set o ob=st:=by
  apply Qy
  intro k
  by_cases e:o=k
  .subst e;rw[Zc hon];exact ho.symm
  .rw[Qh e]
 have hfy:(flat ys).length=ys.length*i.size:=zk hys
 have grow:∀(base:Option Addr)(c:Nat)(olds:List Value),(Builtin.firstCells i.size xs.length (.slice base xs.length c)).run P w.drew=.ok olds.toArray w.drew->c<xs.length+ys.length->olds.length=xs.length*i.size->(∀x∈xs,x.cells.length=i.size)->
   (∀(j:Nat)(a:AV)(b:Value),(flat xs)[j]?=some a->olds[j]?=some b->Rel G a b)->Builtin.nextslicecap (xs.length+ys.length) c*i.bytes<=281474976710656->
   ∃v' w' G' a' ob',(Builtin.append_ #[tt,u] ty #[.slice base xs.length c,x]).run P w=.ok v' w'∧G.le G'∧q9 B0 w0 G' (st.set o ob') w'∧Rel G' a' v'∧Vec i.size T o (xs++ys) a' ob':=by
  intro base c olds hold hc hol hwx hrx hfit
  have hfx:(flat xs).length=xs.length*i.size:=zk hwx
  have hrun:=qcc (ty:=ty) htt hu hd hi hz hx base xs.length c olds hold hc (by simp only[maxLen]at h63;omega) hfit
  have hge:=grownCap_ge w (xs.length+ys.length) c T
  have hle:=grownCap_le_maxLen w (xs.length+ys.length) c T h63
  generalize grownCap w (xs.length+ys.length) c T=cap at hrun hge hle
  generalize hzc:(Builtin.zeroCells z.cells (cap-(xs.length+ys.length)))=zc at hrun
  have hzl:zc.size=(cap-(xs.length+ys.length))*i.size:=by rw[<-hzc,size_zeroCells,hzs]
  have hdrew:Below w.heap.size w w.drew:=⟨rfl,rfl,rfl,Qc _,λ_ _=>rfl⟩
  have hcl:(flat (xs++ys)++zc.toList.map AV.v).length=(olds.toArray++news.toArray++zc).size:=by
   rw[va]
   simp[hfx,hfy,hol,hx.count]
   omega
  have hA1:=(hk.fresh hdrew).fresh (w':=w.drew.alloc (.cells (olds.toArray++news.toArray++zc) T)) ⟨rfl,rfl,rfl,by simp[World.alloc],λb hb=>xv _ _ _ hb⟩
  have hnp:G.pub w.heap.size=none:=by
   cases hp:G.pub w.heap.size with
   |none=>rfl
   |some vs=>exact absurd (hA.pub_lt hp) (Xp _)
  obtain⟨hle2,hA2⟩:=hA1.setCells (t:=o) (k:=w.heap.size) (cap:=0) (v':=(G.ob o).ver+1) (T:=T) (cs:=flat (xs++ys)++zc.toList.map AV.v) hkt hraw (Nat.lt_succ_self _) (xu w.drew _) hnp hcl (by
   have h1:=x2 (G:=G) (cs:=flat xs) (ds:=flat ys) (vs:=olds) (us:=news) Om hrx hrel
   have h2:=x2 (G:=G) (cs:=flat xs++flat ys) (ds:=zc.toList.map AV.v) (vs:=olds++news) (us:=zc.toList) (by simp[hfx,hfy,hol,hx.count]) h1 (λj a b h1 h2=>by
    rw[Qr,h2]at h1
    simp at h1
    subst h1
    exact .v _)
   rw[va]
   intro j a b g1 g2
   exact h2 j a b g1 (by rw[<-g2];simp[<-Ze])) hA.hB (λk x hx hl=>by
   obtain⟨_,hx'⟩:=hother k x hx hl
   exact Xs ((hA.ob k x hx').lt hl))
  rw[Xb]at hA2
  refine⟨_,_,_,_,_,hrun,hle2,hA2,.os o ((G.ob o).ver+1) 0 (xs.length+ys.length) w.heap.size cap (by simpa[Gh.setOb]using htn) (by simp[Gh.setOb]) (λ_=>by simp[Gh.setOb]),?_⟩
  have:=Vec.os (o:=o) (T:=T) (xs:=xs++ys) ((G.ob o).ver+1) cap (zc.toList.map AV.v) (sz:=i.size) (by
   have h1:zc.toList.length=(cap-(xs.length+ys.length))*i.size:=by rw[<-hzl];simp
   rw[Qa,va,Qa,hfx,hfy,Ql,h1,<-Qw,<-Qw]
   congr 1
   omega) (λy hy=>by
   rcases Za.1 hy with h|h
   .exact hwx y h
   .exact hys y h) (by simpa using hge) hle
  rw[Qa]at this
  exact this
 cases hV with
 |nil h=>
  subst h
  cases hv with
  |v _=>
  by_cases hm0:ys.length=0
  .have hy0:ys=[]:=Qf hm0
   subst hy0
   have hn0:news=[]:=Qf (by simpa using hx.count)
   subst hn0
   exact⟨_,_,G,_,_,qa0 htt hu hd hi hx none 0 0 (Qc _),.refl G,by rw[hself];exact hA,.v _,.nil Sx⟩
  .exact grow none 0 [] (by simp[run_firstCells_none]) So Sx Sx (by simp[flat]) (by
    simp only[Qn,Qs]at hbytes⊢
    rw[nextslicecap_zero Om]
    omega)
 |os ver cap pad hl hw hle hcm=>
  obtain⟨g0,g1,g2,g3,c,g4,g5,g6⟩:=hA.ob o _ ho
  have hfx:(flat xs).length=xs.length*i.size:=zk hw
  cases hv with
  |os _ _ _ _ b _ hn hv' hb=>
  have hb:=hb g1
  subst hb
  have hcs:c.size=cap*i.size:=by rw[<-g5,hl]
  by_cases hm0:ys.length=0
  .have hy0:ys=[]:=Qf hm0
   subst hy0
   have hn0:news=[]:=Qf (by simpa using hx.count)
   subst hn0
   exact⟨_,_,G,_,_,qa0 htt hu hd hi hx _ xs.length cap hle,.refl G,by rw[hself];exact hA,.os _ _ _ _ _ _ hn hv' (λ_=>rfl),by rw[Zh];exact .os ver cap pad hl hw hle hcm⟩
  .by_cases hroom:xs.length+ys.length<=cap
   .have hmul:(xs.length+ys.length)*i.size<=cap*i.size:=Qg _ hroom
    rw[Qw]at hmul
    have hfit:xs.length*i.size+news.length<=c.size:=by rw[hx.count,hcs];omega
    have hrun:=qhg (ty:=ty) htt hu hd hi hx (G.ob o).blk xs.length cap c g4 hroom hfit
    have hpl:pad.length=cap*i.size-xs.length*i.size:=by
     have:=hl
     rw[Qa,hfx]at this
     omega
    have hA2:=hA.setRow (cs':=flat (xs++ys)++pad.drop (ys.length*i.size)) (c':=(c.toList.take (xs.length*i.size)++news++c.toList.drop (xs.length*i.size+news.length)).toArray) ho (by
     rw[va]
     simp[hfx,hfy,hx.count,hpl,hcs,Zo hle]
     omega) (by
     have e1:∀(j:Nat)(a:AV)(b:Value),(flat xs)[j]?=some a->(c.toList.take (xs.length*i.size))[j]?=some b->Rel G a b:=λj a b h1 h2=>by
      have hj:=lt_of_getElem? h1
      rw[Qt Om]at h2
      exact g6 j a b (by rw[Qb hj];exact h1) (by simpa using h2)
     have e2:=x2 (G:=G) (cs:=flat xs) (ds:=flat ys) (vs:=c.toList.take (xs.length*i.size)) (us:=news) So e1 hrel
     have e3:=x2 (G:=G) (cs:=flat xs++flat ys) (ds:=pad.drop (ys.length*i.size)) (vs:=c.toList.take (xs.length*i.size)++news) (us:=c.toList.drop (xs.length*i.size+news.length)) (by
      simp[hfx,hfy,hx.count]
      omega) e2 (λj a b h1 h2=>by
      rw[Qk]at h1 h2
      refine g6 (xs.length*i.size+news.length+j) a b ?_ (by simpa using h2)
      rw[Qi (by rw[hfx];omega),hfx,<-h1,hx.count]
      congr 1
      omega)
     rw[va]
     intro j a b h1 h2
     exact e3 j a b h1 (by simpa using h2))
    refine⟨_,_,G,_,_,hrun,.refl G,hA2,.os o ver 0 (xs.length+ys.length) _ cap hn hv' (λ_=>rfl),?_⟩
    have:=Vec.os (o:=o) (T:=T) (xs:=xs++ys) ver cap (pad.drop (ys.length*i.size)) (sz:=i.size) (by
     rw[Qa,va,Qa,hfx,hfy,List.length_drop,hpl]
     omega) (λy hy=>by
     rcases Za.1 hy with h|h
     .exact hw y h
     .exact hys y h) (by simpa using hroom) hcm
    rw[Qa]at this
    exact this
   .refine grow (some ⟨(G.ob o).blk,0,none⟩) cap (c.toList.take (xs.length*i.size)) ?_ Om (by
     have:xs.length*i.size<=cap*i.size:=Qg _ hle
     simp
     omega) hw (λj a b h1 h2=>?_) (growslice_fits Om hbytes)
    .refine run_firstCells_some w.drew i.size xs.length ⟨(G.ob o).blk,0,none⟩ xs.length cap _ (by
      have:xs.length*i.size<=cap*i.size:=Qg _ hle
      simp
      omega) λj y hy=>?_
     have e1':w.drew.heap[(G.ob o).blk]?=some (.cells c T (0,0)):=g4
     rw[Addr.add_lit]
     rw[Qm]at hy
     split at hy
     .simp only[Ze]at hy
      simp[World.cell?,e1',hy]
     .simp at hy
    .have hj:=lt_of_getElem? h1
     rw[Qt Om]at h2
     exact g6 j a b (by rw[Qb hj];exact h1) (by simpa using h2)
end
section
variable {E : Env} {rd : Option Nat} {N : Nat} {ops : Array Oper} {K : AS → Prop} {s : AS} {rest : List Oper} {d : Option Tmp} {T : TypeId} {p : String} {af : Array Edge}
theorem qwb{x y:Operand}{t u T':TypeId}{sz bytes o:Nat}{xs ys:List AV}{tip:Option Nat}{a:AV}{ob:AObj}(hx:qg N s x=a)(hy:qg N s y=.sl sz ys tip)(hV:Vec sz T' o xs a ob)(ho:s.st[o]?=some ob)
  (ht:E.P.underlying t=some (.slice T')) (hu:E.P.underlying u=some (.slice T')) (hT:wm E.P T' sz bytes) (hone:jl (flat ys)=true) (h63:xs.length+ys.length<=maxLen) (hb:(xs.length+ys.length)*bytes<=140737488355328)
  (h:∀a' ob',Vec sz T' o (xs++ys) a' ob'->AOps E rd N ops rest K (AS.put ⟨s.t,s.st.set o ob',s.df⟩ d a')):AOps E rd N ops (⟨d,.call ⟨.builtin .append,#[x,y],#[t,u]⟩,T,p,af,none⟩::rest) K s:=by
 refine qw rfl (qu nofun λB0 w0 G a0 w _ hI=>?_)
 obtain⟨news,h1,h2,h3⟩:=xm (P:=E.P) hI.agree (hI.eval_of hy) (by simpa[jl]using hone)
 obtain⟨v',w',G',a',ob',e1,e2,e3,e4,e5⟩:=qfl (ty:=T) hI.agree ht hu (.inr ⟨_,rfl⟩) hT hV ho (hI.eval_of hx) h1 h2 h3 h63 hb
 refine⟨v',w',G',_,_,?_,e2,e3,e4,h a' ob' e5⟩
 generalize a0.eval=ρ at e1
 simp[execOp,resolve,invoke,builtin,e1]
theorem qmb{sz:Nat}{T:TypeId}{o:Nat}{xs:List AV}{a:AV}{ob:AObj}(h:Vec sz T o xs a ob):(xs=[]∧a=z0∧ob=.tip 0 sz T)∨∃ver cap pad,a=.os o ver 0 xs.length cap∧ob=.cells ver T (flat xs++pad)∧(flat xs++pad).length=cap*sz∧(∀x∈xs,x.cells.length=sz)∧xs.length<=cap∧cap<=maxLen:=by
 cases h with
 |nil h=>exact .inl ⟨h,rfl,rfl⟩
 |os ver cap pad h1 h2 h3 h4=>exact .inr ⟨ver,cap,pad,rfl,rfl,h1,h2,h3,h4⟩
theorem qoi{sz:Nat}:∀{xs:List AV}{i:Nat}{x:AV},(∀x∈xs,x.cells.length=sz)->x.cells.length=sz->i<xs.length->∀pad,zt (flat xs++pad) (0+i*sz) x.cells=flat (xs.set i x)++pad
 | [],_,_,_,_,h,_=>by simp at h
 |y::xs,0,x,hw,hx,_,pad=>by
  have hy:=hw y Sx
  simp only[List.set_cons_zero,qaf,zt,Nat.zero_mul,Qs,List.take_zero,List.nil_append,hx]
  rw[Qj,Zi Om,<-hy,List.drop_length]
  simp
 |y::xs,i+1,x,hw,hx,h,pad=>by
  have hy:=hw y Sx
  have ih:=qoi (xs:=xs) (i:=i) (x:=x) (λz hz=>hw z (by simp[hz])) hx (by simpa using h) pad
  simp only[Xc,qaf,zt,Qs]at ih⊢
  have e:(i+1)*sz=y.cells.length+i*sz:=by rw[Qw,hy];omega
  simp only[Qj]at ih⊢
  rw[e,List.take_length_add_append,show y.cells.length+i*sz+x.cells.length=y.cells.length+(i*sz+x.cells.length)by omega,List.drop_length_add_append]
  simp only[Qj]
  rw[ih]
theorem zel{sz:Nat}{T:TypeId}{o ver cap:Nat}{xs pad:List AV}(hl:(flat xs++pad).length=cap*sz)(hw:∀x∈xs,x.cells.length=sz)(hle:xs.length<=cap)(hcm:cap<=maxLen){i:Nat}{x:AV}(hx:x.cells.length=sz)(hi:i<xs.length):
  Vec sz T o (xs.set i x) (.os o ver 0 xs.length cap) (.cells ver T (zt (flat xs++pad) (0+i*sz) x.cells)):=by
 rw[qoi hw hx hi]
 have hw':∀y∈xs.set i x,y.cells.length=sz:=λy hy=>by
  rcases List.mem_or_eq_of_mem_set hy with h|rfl
  .exact hw y h
  .exact hx
 have:=Vec.os (o:=o) (T:=T) (xs:=xs.set i x) ver cap pad (sz:=sz) (by
  rw[Qa]at hl⊢
  rw[zk hw',Xi,<-zk hw]
  exact hl) hw' (by simpa using hle) hcm
 rw[Xi]at this
 exact this
theorem q2j{sz:Nat}{xs pad:List AV}(hw:∀x∈xs,x.cells.length=sz){i:Nat}{x:AV}(hi:xs[i]?=some x):((flat xs++pad).drop (i*sz)).take sz=x.cells:=by
 have hlt:=lt_of_getElem? hi
 have hx:=hw x (Zf hi)
 apply Qy
 intro j
 rw[Qm]
 by_cases hj:j<sz
 .rw[if_pos hj,Qk,<-qgy hw hi j hj]
  have hle:(i+1)*sz<=xs.length*sz:=Qg _ hlt
  rw[Xr]at hle
  rw[Qb (by rw[zk hw];omega)]
 .rw[if_neg hj,Zd Om]
end
structure Chg (N:Nat) (s s':AS):Prop where
 run:∀(B0:Nat)(w0:World)(G:Gh)(a:Act)(w:World),Inv B0 w0 N G s a w->∃G',G.le G'∧Inv B0 w0 N G' s' a w
theorem Chg.trans{N:Nat}{s s' s'':AS}(h:Chg N s s')(k:Chg N s' s''):Chg N s s'':=⟨λB0 w0 G a w hI=>let ⟨G1,h1,h2⟩:=h.run B0 w0 G a w hI;let ⟨G2,k1,k2⟩:=k.run B0 w0 G1 a w h2;⟨G2,h1.trans k1,k2⟩⟩
section
variable {E : Env} {rd : Option Nat} {N : Nat} {ops : Array Oper} {K : AS → Prop} {s s' : AS}
theorem q8s{fn:Func}{R:AV->List AObj->Prop}(hc:Chg fn.ntmps s s')(h:ARet E fn R s'):ARet E fn R s:=
 ⟨λB0 w0 G a w hL hI R2 hR2=>let ⟨G1,h1,h2⟩:=hc.run B0 w0 G a w hI;h.run B0 w0 G1 a w hL h2 R2 λv G' r st' w' hG k1 k2 k3=>hR2 v G' r st' w' (h1.trans hG) k1 k2 k3⟩
theorem q83(i:Nat){x r:AV}(hi:s.t i=x)(hw:∀G v,Rel G x v->Rel G r v):Chg N s ⟨Av.put s.t i r,s.st,s.df⟩:=
 ⟨λB0 w0 G a w hI=>⟨G,.refl G,hI.agree,hI.defers,hI.size,λj y hy=>by
  have hj:=hI.tmps j y hy
  by_cases e:j=i
  .subst e;simp only[wp];rw[hi]at hj;exact hw G y hj
  .simp only;rw[yh _ _ _ _ e];exact hj⟩⟩
theorem q82(o:Nat):Chg N s ⟨s.t,s.st.set o .dead,s.df⟩:=⟨λB0 w0 G a w hI=>⟨G,.refl G,hI.agree.kill o,hI.defers,hI.size,hI.tmps⟩⟩
theorem q3a(i:Nat){sz o:Nat}{T':TypeId}{xs:List AV}{v:AV}{ob:AObj}(hi:s.t i=v)(hV:Vec sz T' o xs v ob)(ho:s.st[o]?=some ob):Chg N s ⟨Av.put s.t i (.sl sz xs none),s.st.set o .dead,s.df⟩:=by
 cases hV with
 |nil hx=>
  subst hx
  exact(q83 i hi (λ_ _ h=>qal h)).trans (q82 o)
 |os ver cap pad hl hw hle hcm=>
  have hm:xs.length*sz<=cap*sz:=Qg _ hle
  refine⟨λ_ _ _ _ _ hI=>hI.osPub hi ho rfl hle hw Om ?_⟩
  rw[List.drop_zero,List.take_append_of_le_length (by rw[zk hw];exact Qc _),List.take_of_length_le (by rw[zk hw];exact Qc _)]
theorem qzy(i:Nat){sz k:Nat}{T':TypeId}{xs:List AV}{v:AV}{ob:AObj}{st loc ext new:List AObj}(hs:s.st=((st++loc)++ext)++new)(hi:s.t i=v)(hV:Vec sz T' (st.length+k) xs v ob)(ho:loc[k]?=some ob):Chg N s ⟨Av.put s.t i (.sl sz xs none),((st++loc.set k .dead)++ext)++new,s.df⟩:=by
 have:=q3a (N:=N) i hi hV (by rw[hs];exact qaw ho)
 rw[hs,qdv _ (lt_of_getElem? ho)]at this
 exact this
theorem quz{rest:List Oper}{d:Option Tmp}{T:TypeId}{p:String}{af:Array Edge}{x y:Operand}{t u T':TypeId}{sz bytes k:Nat}{xs ys:List AV}{tip:Option Nat}{a:AV}{ob:AObj}{st loc ext new:List AObj}(hs:s.st=((st++loc)++ext)++new)(hx:qg N s x=a)(hy:qg N s y=.sl sz ys tip)(hV:Vec sz T' (st.length+k) xs a ob)(ho:loc[k]?=some ob)
  (ht:E.P.underlying t=some (.slice T')) (hu:E.P.underlying u=some (.slice T')) (hT:wm E.P T' sz bytes) (hone:jl (flat ys)=true) (h63:xs.length+ys.length<=maxLen) (hb:(xs.length+ys.length)*bytes<=140737488355328)
  (h:∀a' ob',Vec sz T' (st.length+k) (xs++ys) a' ob'->AOps E rd N ops rest K (AS.put ⟨s.t,((st++loc.set k ob')++ext)++new,s.df⟩ d a')):AOps E rd N ops (⟨d,.call ⟨.builtin .append,#[x,y],#[t,u]⟩,T,p,af,none⟩::rest) K s:=
 qwb hx hy hV (by rw[hs];exact qaw ho) ht hu hT hone h63 hb λa' ob' hV'=>by rw[hs,qdv _ (lt_of_getElem? ho)];exact h a' ob' hV'
end
end Go.Av
namespace Go.Proofs.YtapblfabkbdgcaaGreatDoor
open Go Go.Av Go.RowKit Go.Proofs Go.Pl
abbrev Ss(xs:List qd):AV:=.sl 1 (xs.map λx=>Sv x) none
theorem qzd(l m:List UInt8)(st:List AObj):ql E 40 [Sv l,Sv m] st λr st'=>r=Sv (Lib.trimPrefix l m)∧st'=st:=
 qch (vals:= #[.string ⟨l.toArray⟩,.string ⟨m.toArray⟩]) rfl λ_ _ w _ _=>(Tryz.strings_TrimPrefix ⟨l.toArray⟩ ⟨m.toArray⟩ w).mono λ_ _ ⟨h1,h2⟩=>⟨h1,qil h2⟩
theorem q2i(l:List UInt8)(c:UInt8)(st:List AObj):ql E 40 [Sv l,Sv [c]] st λr st'=>r=Sv (vo c l)∧st'=st:=by
 rw[<-qs2]
 exact qzd _ _ _
theorem q4v{B0:Nat}{w0:World}{G:Gh}{st:List AObj}{w:World}(hA:q9 B0 w0 G st w){xs:List qd}{tip:Option Nat}{v:Value}(h:Rel G (.sl 1 (xs.map λx=>Sv x) tip) v):
  (xs=[]∧∃a c,v=.slice a 0 c)∨∃b off cap,v=.slice (some ⟨b,off,none⟩) xs.length cap∧b<w.heap.size∧xs.length<=cap∧∀(j:Nat)(x:qd),xs[j]?=some x->w.cell? ⟨b,off+j,none⟩=some (.string ⟨x.toArray⟩):=by
 generalize hq:xs.map (λx=>Sv x)=q at h
 cases h with
 |sl0 sz tip base cap ht=>exact .inl ⟨by simpa using hq,base,cap,rfl⟩
 |sl _ _ _ b off cap pub hp hw hlen hr ht hcap=>
  subst hq
  obtain⟨c,T,fz,hc,hcc⟩:=hA.pub b pub hp
  refine .inr ⟨b,off,cap,Sx,hA.pub_lt hp,by simpa using hcap,λj x hx=>?_⟩
  have hfl:flat (xs.map λx=>Sv x)=xs.map λx=>Sv x:=by
   clear hx hr hlen hw ht hcap
   induction xs with
   |nil=>rfl
   |cons a xs ih=>rw[Qp,qaf,ih];rfl
  have hj:=lt_of_getElem? hx
  rw[hfl]at hlen
  simp only[Ql]at hlen
  have hy:pub[off+j]?=some (pub[off+j]'(by omega)):=Zb Om
  have hrj:=hr j (Sv x) _ (by rw[hfl,Qr,hx];rfl) hy
  generalize hz:pub[off+j]'(by omega)=z at hrj hy
  generalize hSx:Sv x=sx at hrj
  cases hrj<;>simp_all
  subst_vars
  simp[World.cell?,hc,hcc _ _ hy]
theorem q6n(xs:List qd)(tip:Option Nat)(sep:qd)(st:List AObj)(hN:xs.length<=140737488355328)(hl:(Lib.join xs sep).length<=140737488355328):ql E 105 [.sl 1 (xs.map λx=>Sv x) tip,Sv sep] st λr st'=>r=Sv (Lib.join xs sep)∧st'=st:=by
 refine⟨λB0 w0 G vs w hL hA hR=>?_⟩
 have hs:vs.size=2:=by have:=hR.1;simpa using this.symm
 have e0:vs[0]?=some vs[0]:=by simp[hs]
 have e1:vs[1]?=some vs[1]:=by simp[hs]
 have h0:=hR.2 0 _ _ rfl e0
 have h1:=hR.2 1 _ _ rfl e1
 have hv1:vs[1]=.string ⟨sep.toArray⟩:=by generalize vs[1]=y at h1;cases h1;rfl
 have hvs:vs= #[vs[0],.string ⟨sep.toArray⟩]:=by
  apply Array.ext (by simp[hs])
  intro i g1 g2
  match i with
  |0=>rfl
  |1=>exact hv1
  |i+2=>simp[hs]at g1;omega
 rw[hvs]
 rcases q4v hA h0 with⟨hx,a,c,hv⟩|⟨b,off,cap,hv,hb,hcap,hcell⟩
 .rw[hv]
  subst hx
  refine(Tryz.strings_Join_none a c ⟨sep.toArray⟩ w).mono ?_
  rintro e w' ⟨rfl,rfl⟩
  exact⟨_,G,Sv [],st,rfl,.refl G,hA,.v _,rfl,rfl⟩
 .rw[hv]
  have hm:(xs.map λl:qd=>(⟨l.toArray⟩:ByteArray)).map (·.data.toList)=xs:=by simp[Xd,Function.comp_def]
  have hc:=Tryz.strings_Join b off cap (xs.map λl=>⟨l.toArray⟩) ⟨sep.toArray⟩ w (λj x hx=>by
   rw[Qr]at hx
   cases hq:xs[j]?with
   |none=>rw[hq]at hx;simp at hx
   |some y=>rw[hq]at hx;simp at hx;subst hx;exact hcell j y hq) hb (by simpa using hN) (by simpa using hcap) (by rw[hm];simpa using hl)
  rw[hm]at hc
  simp only[Ql]at hc
  refine hc.mono ?_
  rintro e w' ⟨rfl,hbw⟩
  exact⟨_,G,Sv _,st,rfl,.refl G,hA.fresh hbw,.v _,rfl,rfl⟩
def Weak(x r:AV):Prop:=∀(G:Gh)(v:Value),Rel G x v->Rel G r v
theorem quv(x:AV):Weak x x:=λ_ _ h=>h
theorem qkq(sz:Nat)(xs:List AV)(tip:Option Nat):Weak (.sl sz xs tip) (.sl sz xs none):=λ_ _ h=>qif h
theorem q43(sz:Nat):Weak z0 (.sl sz [] none):=λ_ _ h=>qal h
theorem qzi{x y x' y':AV}(h1:Weak x x')(h2:Weak y y'):Weak (.tu [x,y]) (.tu [x',y']):=λG v h=>by
 cases h with
 |tu _ vs hl hr=>
  refine .tu _ vs hl λi a b ha hb=>?_
  match i with
  |0=>simp at ha;subst ha;exact h1 G b (hr 0 x b rfl hb)
  |1=>simp at ha;subst ha;exact h2 G b (hr 1 y b rfl hb)
  |i+2=>simp at ha
theorem q2z{fn:Func}{s:AS}{t u:Tmp}{x y x' y':AV}(hr:fn.results= #[.tmp t,.tmp u])(hx:qg fn.ntmps s (.tmp t)=x)(hy:qg fn.ntmps s (.tmp u)=y)(h1:Weak x x')(h2:Weak y y'):ARes E fn s (.tu [x',y']):=
 qab (qgt hr) (by rw[hx,hy];exact qzi h1 h2)
def errN(n:Int):AV:=if n=0 then .v .nilIface else .ifc 50 (Iv n)
theorem qh2(n:Int):Pure (errN n):=by
 unfold errN
 split
 .exact qt _
 .exact qeq (qt _)
theorem qi5{n:Int}(h:n≠0):errN n=.ifc 50 (Iv n):=if_neg h
theorem qnm(f:FldV)(st:List AObj)(hl:f.1.length<4294967281):ql E 142 [fldA f] st λr st'=>r=errN (j5 f)∧st'=st:=by
 refine zr (qh2 _) (qy Tryz.func142 rfl (Qd rfl) ?_)
 repeat' (first|apply qp|apply q8|apply qj|apply qi|apply qk|(apply qz;(iterate 3 exact rfl))|(apply w6;exact rfl)|(apply qh;exact rfl;apply cd_n<;>intro h)|(apply qh;exact rfl;apply cd_d<;>intro h)|(apply vb;(iterate 3 exact rfl))|(apply vp;exact rfl;exact rfl)|(apply qdc;(iterate 4 exact rfl))|(apply jk;(iterate 3 exact rfl))|(apply kw;(iterate 5 exact rfl))|apply za|apply zg|(apply zf;exact Tryz.call166;exact zbk _ _ hl))
 all_goals refine qs rfl (zj rfl) ⟨(?_:_=_),_,rfl⟩
 .have e:j5 f=5:=if_pos (by simp_all)
  rw[e];rfl
 .have e:j5 f=6:=(if_neg (by simp_all)).trans (if_pos Om)
  rw[e];rfl
 .have e:j5 f=0:=(if_neg (by simp_all)).trans (if_neg Om)
  rw[e];rfl
theorem qg0(f:FldV)(st:List AObj)(hl:f.1.length<4294967281)(h:j5 f=0):ql E 142 [fldA f] st λr st'=>r=.v .nilIface∧st'=st:=by
 have:=qnm f st hl
 rw[h]at this
 exact this
theorem qg1(f:FldV)(st:List AObj)(hl:f.1.length<4294967281)(h:j5 f≠0):ql E 142 [fldA f] st λr st'=>r=.ifc 50 (Iv (j5 f))∧st'=st:=by
 have:=qnm f st hl
 rw[qi5 h]at this
 exact this
theorem q75(s:List UInt8)(st:List AObj)(hl:s.length<4294967281):ql E 144 [Sv s] st λr st'=>r=Sv (kz s)∧st'=st:=by
 refine zr (qt _) (qy Tryz.func144 rfl (Qd rfl) ?_)
 have hb:Lib.trimS s [32,9]=[]↔qam s:=by rw[qut];simp[vr,qam]
 repeat' (first|apply qp|apply qj|apply qi|apply qm|apply qk|(apply x8;(iterate 3 exact rfl))|(apply z6;(iterate 4 exact rfl))|(apply qen;exact cAo)|(apply qdp;exact cAo)|(apply qco<;>intro h)|(apply q7;exact rfl;apply qf8;exact cAo)|(apply q7;exact rfl;apply qkb;exact cAo)|(apply qh;exact rfl;apply cd_t;exact cRa)|(apply qh;exact rfl;apply cd_d<;>intro h)|(apply qbj;exact rfl;exact rfl;exact cOs)|apply za|apply zg|(apply zf;exact Tryz.call164;exact zek _ _ _ Om rfl rfl)|(apply zf;exact Tryz.call154;exact qg4 _ _ _))
 all_goals refine qs rfl (zj rfl) ⟨congrArg (λl:qd=>Sv l) (?_:_=kz s),_,rfl⟩
 all_goals unfold kz
 all_goals simp_all
theorem qmw(xs:List qd):Pure (Ss xs):=q7k xs
theorem q4s(l p:qd)(r:List qd)(st:List AObj)(hl:l.length<4294967281)(h:qv l=p::r):ql E 143 [Sv l,Sv [10]] st λx st'=>x=.sl 1 (Sv p::r.map λx=>Sv x) none∧st'=st:=by
 have:=q72 l st hl
 rw[h]at this
 exact this
def qg5(f:FldV):AV:=.tu [Ss (if j5 f=0 then zh f else []),errN (j5 f)]
theorem q0g(f:FldV):Pure (qg5 f):=qdt λx hx=>by
 simp only[Qo,Qu,or_false]at hx
 rcases hx with rfl|rfl
 .exact qmw _
 .exact qh2 _
set_option maxHeartbeats 2000000 in
theorem qnn(f:FldV)(st:List AObj)(hl:f.1.length<4294967281)(hv:f.2.length<1000000):ql E 102 [fldA f] st λr st'=>r=qg5 f∧st'=st:=by
 refine zr (q0g _) (qy Tryz.func102 rfl (Qd rfl) ?_)
 by_cases hc:j5 f=0
 .obtain⟨p,r,hp⟩:∃p r,qv f.2=p::r:=⟨_,_,qj7 f.2⟩
  have hpl:p.length<=f.2.length:=qc2 f.2 p (by rw[hp];simp)
  have hrl:∀x∈r,x.length<=f.2.length:=λx hx=>qc2 f.2 x (by rw[hp];simp[hx])
  have hrn:r.length<=f.2.length:=by have:=qat _ f.2 (Qc _);rw[hp]at this;simpa using this
  repeat' (first|(apply xq;(iterate 6 exact rfl))|(apply qta;(iterate 5 exact rfl);kernel_rfl)|apply qp|apply q8|apply qj|apply qi|apply qm|apply qk|(apply x8;(iterate 3 exact rfl))|(apply qh;exact rfl;apply cd_f;exact cRa)|(apply qh;exact rfl;apply cd_d<;>intro h)|(apply js;(iterate 4 exact rfl))|(apply qbj;exact rfl;exact rfl;exact cOs)|(apply qc6;exact rfl;exact rfl)|(apply qdc;(iterate 4 exact rfl))|(apply jk;(iterate 3 exact rfl))|(apply kg;(iterate 3 exact rfl))|(apply kw;(iterate 5 exact rfl))|(apply vf;(iterate 11 exact rfl))|(apply qiy;(iterate 4 exact rfl);(first|assumption|omega|exact Nat.succ_le_succ (Zq _)|(simp;omega));exact rfl)|apply qgs|(apply qk7;exact rfl;exact rfl;exact cOs)|(apply qfw;(iterate 3 exact rfl))|(apply qnc;(iterate 5 exact rfl))|apply qei|apply za|(apply zf;exact Tryz.call142;exact qg0 _ _ hl hc)|(apply zf;exact Tryz.call143;exact q4s _ _ _ _ Om hp)|(apply wi (n:=0);(iterate 6 exact rfl))|(apply qbz (n:=0);(iterate 6 exact rfl))|(apply qho (n:=0);(iterate 5 exact rfl);omega))
  all_goals refine q5q 6 (o:=st.length+1) (sz:=1) (len:=1) (cap:=1) (xs:=[Sv (jn f.1 p)]) (T':=9) rfl (yc rfl) rfl rfl Om (Qc _) (by decide) (by simp[AV.cells]) ?_ ?_
  .exact congrArg (λl:qd=>[Sv l]) (by unfold jn;rw[if_neg h]:jn f.1 p=f.1++[58]++([32]++p))
  rotate_left
  .exact congrArg (λl:qd=>[Sv l]) (by unfold jn;rw[if_pos (Classical.not_not.1 h),Zh]:jn f.1 p=f.1++[58])
  all_goals
   have hre:qg5 f=.tu [Ss (jn f.1 p::r.map λs=>[32]++kz s),.v .nilIface]:=by
    unfold qg5 zh
    rw[if_pos hc,hc,hp]
    rfl
   rw[hre]
   have hst:∀s,(kz s).length<=s.length+1:=qun
   refine qdl r (λpre s=>StE [(6,.sl 1 (Sv (jn f.1 p)::pre.map (λs=>Sv ([32]++kz s))) (some (st.length+1))),(35,.sl 1 (r.map λx=>Sv x) none),(36,Iv r.length),(37,Iv pre.length)] st [.cells 0 98 [Sv f.1,Sv f.2],.tip (pre.length+1) 1 9] s) (qgo ⟨rfl,rfl,congrArg (λn:Nat=>Iv (n:Int)) (Ql ..),rfl,trivial⟩ (qsw st _ 1 _)) ?_ ?_
   .rintro _ ⟨t,ext,rfl⟩
    repeat' (first|apply qp|apply qj|apply qi|apply qm|apply qk|(apply qz;(iterate 3 exact rfl))|(apply qh;exact rfl;apply yi;exact cAo)|apply kh|apply zg)
    refine qs rfl (q2z rfl rfl rfl (qkq _ _ _) (quv _)) ⟨?_,qcm _ _ _ _⟩
    simp only[Ss,Qp,Xd]
    rfl
   .rintro pre a rest _ hr ⟨t,ext,rfl⟩
    have hlen:r.length=pre.length+(rest.length+1):=by rw[hr];simp
    have hget:(r.map λx=>Sv x)[pre.length]?=some (Sv a):=by rw[hr];simp
    have ha:a.length<=f.2.length:=hrl a (by rw[hr];simp)
    have hsa:=hst a
    repeat' (first|apply qp|apply q8|apply qj|apply qi|apply qm|apply qk|(apply qz;(iterate 3 exact rfl))|(apply qh;exact rfl;apply xc;exact cAo)|(apply qbj;exact rfl;exact rfl;exact cOs)|(apply ja;exact rfl;exact rfl;exact zp Om Om)|(apply kg;(iterate 3 exact rfl))|(apply y9;(iterate 9 exact rfl))|apply za|(apply zf;exact Tryz.call144;exact q75 _ _ Om)|(apply wi (n:=pre.length);(iterate 5 exact rfl);exact hget)|(apply qd1 (n:=pre.length+1) (m:=1) (sz:=1) (bytes:=16);(iterate 4 exact rfl);simp;exact rfl;exact rfl;exact⟨⟨_,_,rfl,rfl,rfl,rfl,rfl⟩⟩;exact rfl;exact rfl;(unfold maxLen;omega);omega;exact rfl))
    refine qc3 ⟨?_,rfl,rfl,?_,trivial⟩ ?_
    .exact zax _ (λs=>Sv ([32]++kz s)) pre a _ rfl
    .exact qsj pre a
    .rw[qcd pre a];rfl
 .skip
  repeat' (first|apply qp|apply qj|apply qi|apply qm|apply qk|(apply qh;exact rfl;apply cd_t;exact cRa)|(apply qc5;exact rfl;exact rfl)|(apply qdc;(iterate 4 exact rfl))|(apply kw;(iterate 5 exact rfl))|apply zg|(apply zf;exact Tryz.call142;exact qg1 _ _ hl hc))
  refine qs rfl (qab (r':=.tu [Ss [],.ifc 50 (Iv (j5 f))]) (qgt rfl) (qzi (q43 _) (quv _))) ⟨?_,_,rfl⟩
  unfold qg5
  rw[if_neg hc,qi5 hc]
theorem qm8{rd:Option Nat}{N:Nat}{ops:Array Oper}{K:AS->Prop}{s:AS}{rest:List Oper}{d:Option Tmp}{T:TypeId}{p:String}{af:Array Edge}{st loc:List AObj}(hst:s.st=st++loc)
  (h:AOps E rd N ops rest K (AS.put ⟨s.t,st++(loc++[bldO 0 (.v (.pointer none)) [] (st.length+(loc.length+1)),.tip 0 1 5]),s.df⟩ d (.bx (st.length+loc.length) 0 0))):AOps E rd N ops (⟨d,.alloc 130,T,p,af,none⟩::rest) K s:=by
 refine wh hst rfl ?_
 have e:∀(t:Nat->AV)(st':List AObj)(df:List Nat)(x:AV),(AS.put ⟨t,st',df⟩ d x).st=st':=λt st' df x=>by cases d<;>rfl
 have e2:∀(t:Nat->AV)(st' st2:List AObj)(df:List Nat)(x:AV),(⟨(AS.put ⟨t,st',df⟩ d x).t,st2,(AS.put ⟨t,st',df⟩ d x).df⟩:AS)=AS.put ⟨t,st2,df⟩ d x:=λt st' st2 df x=>by cases d<;>rfl
 refine qwh (o:=st.length+loc.length) (j:=1) (sz:=1) (T':=5) (T1:=130) (ver:=0) (cs:=[.v (.pointer none),z0]) ?_ rfl ?_
 .rw[e,<-Qj,Qi Sx]
  simp
  rfl
 .rw[e,e2]
  have hx:(st++(loc++[AObj.cells 0 130 [.v (.pointer none),z0]])).set (st.length+loc.length) (.cells 0 130 ([AV.v (.pointer none),z0].set 1 (.sl 1 [] (some (st++(loc++[AObj.cells 0 130 [.v (.pointer none),z0]])).length))))++[AObj.tip 0 1 5]
    =st++(loc++[bldO 0 (.v (.pointer none)) [] (st.length+(loc.length+1)),.tip 0 1 5]):=by
   rw[qsw,Qj,List.set_append_right _ _ (Qc _)]
   simp
  have h':=h
  rw[<-hx]at h'
  exact h'
theorem qpy(st loc ext new loc':List AObj)(k kt ver:Nat)(q:AV)(l m:List UInt8)(hk:loc[k]?=some (bldO ver q l (st.length+kt)))(hkt:loc[kt]?=some (.tip l.length 1 5))(hq:q=.v (.pointer none)∨q=.bx (st.length+k) ver 0)
  (hlen:l.length+m.length<=140737488355328) (hl:loc'=(loc.set k (bldO ver (.bx (st.length+k) ver 0) (l++m) (st.length+kt))).set kt (.tip (l++m).length 1 5)):
  ql E 65 [.bx (st.length+k) ver 0,Sv m] (((st++loc)++ext)++new) λr st'=>r=.tu [Iv m.length,.v .nilIface]∧st'=((st++loc')++ext)++new:=by
 refine(q8w (st.length+k) ver (st.length+kt) q l m _ (qaw hk) (qaw hkt) hq hlen).mono λr st' ⟨h1,h2⟩=>⟨h1,?_⟩
 have hk1:=lt_of_getElem? hk
 have hk2:=lt_of_getElem? hkt
 rw[h2,qdv _ hk1,qdv _ (by simpa using hk2),hl,Qa]
theorem qne(st loc ext new loc':List AObj)(k kt ver:Nat)(q:AV)(l:List UInt8)(hk:loc[k]?=some (bldO ver q l (st.length+kt)))(hkt:loc[kt]?=some (.tip l.length 1 5))(hl:loc'=loc.set kt .dead):
  ql E 62 [.bx (st.length+k) ver 0] (((st++loc)++ext)++new) λr st'=>r=Sv l∧st'=((st++loc')++ext)++new:=by
 refine(q5r (st.length+k) ver (st.length+kt) q l _ (qaw hk) (qaw hkt)).mono λr st' ⟨h1,h2⟩=>⟨h1,?_⟩
 rw[h2,qdv _ (lt_of_getElem? hkt),hl]
theorem qo8:∀(r:List qd),(zb (r.map λs=>[32]++kz s)).length<=3*(r.flatMap λs=>[10]++s).length
 | []=>by simp[zb]
 |a::r=>by
  have ih:=qo8 r
  have:=qun a
  simp only[zb,Qp,Qq,Qa,Qe,Qn]at ih⊢
  omega
theorem xo(a b:List qd):zb (a++b)=zb a++zb b:=by simp[zb]
theorem qfk(s:qd):zb [s]=s++[10]:=by simp[zb]
theorem qiu:∀(l:List qd),l.length<=(zb l).length
 | []=>by simp
 |a::r=>by
  have ih:=qiu r
  simp only[zb,Qq,Qa,Qe,Qn]at ih⊢
  omega
theorem qtv(a b:List Fld):zu (a++b)=zu a++zu b:=by simp[zu]
theorem qtw(f:Fld):zu [f]=zb (zh f):=by simp[zu]
theorem qq0{f:Fld}(h:j7 f):(zb (zh f)).length<=5000:=by
 obtain⟨hk,hv⟩:=h
 have h1:=qo8 (qv f.2).tail
 have h2:=congrArg Zr (qf5 _ f.2 (Qc _))
 have h3:(jn f.1 ((qv f.2).headD [])).length<=32+2+((qv f.2).headD []).length:=by
  have:=hk.2.1
  unfold jn
  split <;>simp <;>omega
 have e:zh f=[jn f.1 ((qv f.2).headD [])]++(qv f.2).tail.map λs=>[32]++kz s:=rfl
 rw[e,xo,qfk]
 simp only[Qa,Qe,Qn]at h2⊢
 omega
theorem qh3:∀(xs:List Fld),(∀f∈xs,j7 f)->(zu xs).length<=5000*xs.length
 | [],_=>by simp[zu]
 |f::r,h=>by
  have ih:=qh3 r λx hx=>h x (by simp[hx])
  have h1:=qq0 (h f Sx)
  have e:zu (f::r)=zb (zh f)++zu r:=by simp[zu]
  rw[e,Qa,Qe]
  omega
def errF:List Fld->Int
 | []=>0
 |f::r=>if j5 f≠0 then j5 f else errF r
theorem qld:∀(xs:List Fld),errF xs=0↔∀f∈xs,j7 f
 | []=>by simp[errF]
 |f::r=>by
  have ih:=qld r
  unfold errF
  by_cases h:j5 f≠0
  .rw[if_pos h]
   have hg:¬j7 f:=λhg=>h ((qan f).2 hg)
   simp[h,hg]
  .have hg:=(qan f).1 (Classical.not_not.1 h)
   rw[if_neg h,ih]
   simp[hg]
theorem q1p:∀{pre:List Fld}{f:Fld}{r:List Fld},(∀x∈pre,j7 x)->j5 f≠0->errF (pre++f::r)=j5 f
 | [],f,r,_,h=>by simp[errF,h]
 |x::pre,f,r,hp,h=>by
  have:=(qan x).2 (hp x Sx)
  simp only[Zl,errF,this]
  rw[if_neg Sx]
  exact q1p (λy hy=>hp y (by simp[hy])) h
theorem qxd(f:FldV)(st:List AObj)(hl:f.1.length<4294967281)(hv:f.2.length<1000000)(h:j5 f=0):ql E 102 [fldA f] st λr st'=>r=.tu [Ss (zh f),.v .nilIface]∧st'=st:=by
 have:=qnn f st hl hv
 unfold qg5 at this
 rw[if_pos h,h]at this
 exact this
theorem qxe(f:FldV)(st:List AObj)(hl:f.1.length<4294967281)(hv:f.2.length<1000000)(h:j5 f≠0):ql E 102 [fldA f] st λr st'=>r=.tu [Ss [],.ifc 50 (Iv (j5 f))]∧st'=st:=by
 have:=qnn f st hl hv
 unfold qg5 at this
 rw[if_neg h,qi5 h]at this
 exact this
def qql(xs:List Fld):AV:=.tu [Sv (if errF xs=0 then zu xs else []),errN (errF xs)]
theorem q3t(xs:List Fld):Pure (qql xs):=qdt λx hx=>by
 simp only[Qo,Qu,or_false]at hx
 rcases hx with rfl|rfl
 .exact qt _
 .exact qh2 _
structure qvf (xs:List FldV):Prop where
 len:xs.length<1000000
 val:∀f∈xs,f.1.length<4294967281∧f.2.length<1000000
set_option maxHeartbeats 2000000 in
theorem zfc(xs:List FldV)(st:List AObj)(hx:qvf xs):ql E 64 [q6 xs] st λr st'=>r=qql xs∧st'=st:=by
 refine zr (q3t _) (qy Tryz.func64 rfl (Qd rfl) ?_)
 have hxl:=hx.len
 repeat' (first|(apply qm8;exact rfl)|apply qp|apply q8|apply qj|apply qi|apply qm|apply qk|(apply js;(iterate 4 exact rfl)))
 refine qdl xs (λpre s=>(∀f∈pre,j7 f)∧∃q,(q=.v (.pointer none)∨q=.bx (st.length+0) 0 0)∧StE [(4,.bx (st.length+0) 0 0),(11,q6 xs),(12,Iv xs.length),(13,Iv pre.length)] st [bldO 0 q (zu pre) (st.length+1),.tip (zu pre).length 1 5] s) ⟨Sx,_,.inl rfl,qgo ⟨rfl,rfl,congrArg (λn:Nat=>Iv (n:Int)) (Ql ..),rfl,trivial⟩ rfl⟩ ?_ ?_
 .rintro _ ⟨hg,q,hq,t,ext,rfl⟩
  repeat' (first|apply qp|apply qj|apply qi|apply qk|(apply qz;(iterate 3 exact rfl))|(apply qh;exact rfl;apply yi;exact cAo)|apply kh|apply zg|(refine zf Tryz.call62 (qne st _ _ _ _ 0 1 0 _ _ rfl rfl rfl) ?_))
  refine qs rfl (qgt rfl) ⟨?_,qcm _ _ _ _⟩
  unfold qql
  have h0:=(qld xs).2 hg
  rw[if_pos h0,h0]
  rfl
 .rintro pre f rest _ hr ⟨hg,q,hq,t,ext,rfl⟩
  have hlen:xs.length=pre.length+(rest.length+1):=by rw[hr];simp
  have hget:(xs.map fldA)[pre.length]?=some (fldA f):=by rw[hr];simp
  obtain⟨hf1,hf2⟩:=hx.val f (by rw[hr];simp)
  by_cases hc:j5 f=0
  .have hgf:=(qan f).1 hc
   have hb1:=qh3 pre hg
   have hb2:=qq0 hgf
   repeat' (first|apply qp|apply q8|apply qj|apply qi|apply qm|apply qk|(apply kf;exact rfl;exact rfl)|(apply qz;(iterate 3 exact rfl))|(apply qh;exact rfl;apply xc;exact cAo)|(apply qh;exact rfl;apply cd_f;exact cRa)|(apply js;(iterate 4 exact rfl))|(apply qc6;exact rfl;exact rfl)|(apply wh;exact rfl;exact rfl)|(apply kg;(iterate 3 exact rfl))|(apply kw;(iterate 5 exact rfl))|(apply vf;(iterate 11 exact rfl))|apply za|(apply zf;exact Tryz.call102;exact qxd _ _ hf1 hf2 hc)|(apply wi (n:=pre.length);(iterate 5 exact rfl);exact hget))
   refine qdl (zh f) (λlp s=>∃q,(q=.v (.pointer none)∨q=.bx (st.length+0) 0 0)∧StE [(4,.bx (st.length+0) 0 0),(11,q6 xs),(12,Iv xs.length),(13,Iv pre.length),(25,Ss (zh f)),(26,Iv (zh f).length),(27,Iv lp.length)] st [bldO 0 q (zu pre++zb lp) (st.length+1),.tip (zu pre++zb lp).length 1 5] s) ⟨_,hq,qc3 ⟨rfl,rfl,rfl,rfl,rfl,congrArg (λn:Nat=>Iv (n:Int)) (Ql ..),rfl,trivial⟩ (by simp[zb])⟩ ?_ ?_
   .rintro _ ⟨q,hq,t,ext,rfl⟩
    repeat' (first|apply qp|apply qj|apply qi|apply qm|(apply qz;(iterate 3 exact rfl))|(apply qh;exact rfl;apply yi;exact cAo)|(apply ja;exact rfl;exact rfl;exact zp Om Om)|apply kh)
    refine⟨λx hx=>?_,q,hq,qc3 ⟨rfl,rfl,rfl,?_,trivial⟩ ?_⟩
    .rcases Za.1 hx with hx|hx
     .exact hg x hx
     .simp at hx;subst hx;exact hgf
    .rw[qcd pre f];rfl
    .rw[qtv,qtw]
   .rintro lp a lr _ hlr ⟨q,hq,t,ext,rfl⟩
    have hlen2:(zh f).length=lp.length+(lr.length+1):=by rw[hlr];simp
    have hget2:((zh f).map λx=>Sv x)[lp.length]?=some (Sv a):=by rw[hlr];simp
    have hb3:(zb lp).length+(a.length+1)<=5000:=by
     rw[hlr,xo]at hb2
     have:a::lr=[a]++lr:=rfl
     rw[this,xo,qfk]at hb2
     simp only[Qa,Qe,Qn]at hb2
     omega
    have hct:=qiu lp
    repeat' (first|apply qp|apply q8|apply qj|apply qi|apply qm|apply qk|(apply qz;(iterate 3 exact rfl))|(apply qh;exact rfl;apply xc;exact cAo)|(apply qbj;exact rfl;exact rfl;exact cOs)|(apply kg;(iterate 3 exact rfl))|apply za|(apply wi (n:=lp.length);(iterate 5 exact rfl);exact hget2))
    refine zf Tryz.call65 (qpy st _ _ _ _ 0 1 0 _ _ _ rfl rfl ?_ ?_ rfl) ?_;(exact hq);(simp only[Qa,Qe,Qn];omega)
    repeat' (first|apply qj|apply qi|apply qm|(apply ja;exact rfl;exact rfl;exact zp Om Om))
    refine⟨_,.inr rfl,qc3 ⟨rfl,rfl,rfl,rfl,rfl,rfl,?_,trivial⟩ ?_⟩
    .rw[qcd lp a];rfl
    .have e:zu pre++zb (lp++[a])=(zu pre++zb lp)++(a++[10]):=by rw[xo,qfk,Qj]
     rw[e];rfl
  .skip
   repeat' (first|apply qp|apply q8|apply qj|apply qi|apply qm|apply qk|(apply kf;exact rfl;exact rfl)|(apply qz;(iterate 3 exact rfl))|(apply qh;exact rfl;apply xc;exact cAo)|(apply qh;exact rfl;apply cd_t;exact cRa)|(apply qc5;exact rfl;exact rfl)|(apply wh;exact rfl;exact rfl)|(apply kg;(iterate 3 exact rfl))|(apply kw;(iterate 5 exact rfl))|(apply vf;(iterate 11 exact rfl))|apply za|apply zg|(apply zf;exact Tryz.call102;exact qxe _ _ hf1 hf2 hc)|(apply wi (n:=pre.length);(iterate 5 exact rfl);exact hget))
   refine qs rfl (qgt rfl) ⟨?_,qcm _ _ _ _⟩
   unfold qql
   have h0:errF xs=j5 f:=by rw[hr];exact q1p hg hc
   rw[h0,if_neg hc,qi5 hc]
   rfl
theorem quh:∀(n:Nat)(l:qd),l.length<=n->qv (l++[10])=qv l++[[]]
 |n,l,hn=>by
  by_cases h:10∈l
  .have hne:l≠[]:=λe=>by subst e;simp at h
   have hlt:=wx (c:=10) hne
   cases n with
   |zero=>omega
   |succ n=>
    have ih:=quh n (past 10 l) Om
    have e:=yn h
    have e2:l++[10]=upto 10 l++10::(past 10 l++[10]):=(congrArg (· ++[10]) e).trans Sx
    rw[xf (by simp[h]),xf h,e2,xy _ (qah 10 l),yw _ (qah 10 l),ih]
    rfl
  .rw[xf Sx,xg h,xy [] h,yw [] h]
   rw[xg Sx]
   rfl
theorem qf6:∀(n:Nat)(l:qd)(c:UInt8),l.length<=n->c≠10->qv (l++[c])=(qv l).set ((qv l).length-1) ((qv l).getD ((qv l).length-1) []++[c])
 |n,l,c,hn,hc=>by
  by_cases h:10∈l
  .have hne:l≠[]:=λe=>by subst e;simp at h
   have hlt:=wx (c:=10) hne
   cases n with
   |zero=>omega
   |succ n=>
    have ih:=qf6 n (past 10 l) c Om hc
    have e:=yn h
    have e2:l++[c]=upto 10 l++10::(past 10 l++[c]):=(congrArg (· ++[c]) e).trans Sx
    have hp:=qed (past 10 l)
    have hpl:0<(qv (past 10 l)).length:=Qv.2 hp
    rw[xf (by simp[h]),xf h,e2,xy _ (qah 10 l),yw _ (qah 10 l),ih]
    have e3:(upto 10 l::qv (past 10 l)).length-1=(qv (past 10 l)).length-1+1:=So
    rw[e3,Xc]
    simp
  .have h2:10∉l++[c]:=by simp[h,Ne.symm hc]
   rw[xg h,xg h2]
   simp
theorem q0p(l:qd):(qv l).length<=l.length+1:=qat _ l (Qc _)
theorem q74(xs:List qd):flat (xs.map λx=>Sv x)=xs.map λx=>Sv x:=by
 induction xs with
 |nil=>rfl
 |cons a xs ih=>rw[Qp,qaf,ih];rfl
set_option maxHeartbeats 2000000 in
theorem q4m(l:qd)(st:List AObj)(hl:l.length<1000000):ql E 149 [Sv l] st λr st'=>r=Ss (qv l)∧st'=st:=by
 refine zr (qmw _) (qy Tryz.func149 rfl (Qd rfl) ?_)
 have h0:Vec 1 9 (st.length+0) ((qv []).map λx=>Sv x) (.os (st.length+0) 0 0 1 1) (.cells 0 9 [Sv []]):=by
  rw[xg Sx]
  exact .os 0 1 [] rfl (by simp[AV.cells]) (Qc _) (by decide)
 repeat' (first|(apply xq;(iterate 6 exact rfl))|apply qp|apply q8|apply qj|apply qi|apply qk)
 refine qdl l (λpre s=>∃v ob,Vec 1 9 (st.length+0) ((qv pre).map λx=>Sv x) v ob∧StE [(0,Sv l),(3,v),(4,Iv pre.length)] st [ob] s) ⟨_,_,h0,qgo ⟨rfl,rfl,rfl,trivial⟩ rfl⟩ ?_ ?_
 .rintro _ ⟨v,ob,hV,t,ext,rfl⟩
  repeat' (first|apply qp|apply qj|apply qi|apply qm|apply qk|(apply qz;(iterate 3 exact rfl))|(apply qh;exact rfl;apply yi;exact cAo)|(apply vb;(iterate 3 exact rfl))|apply kh|apply zg)
  exact q8s (qzy 2 rfl rfl hV rfl) (qs rfl (zj rfl) ⟨rfl,qcm _ _ _ _⟩)
 .rintro pre c rest _ hr ⟨v,ob,hV,t,ext,rfl⟩
  have hlen:l.length=pre.length+(rest.length+1):=by rw[hr];simp
  have hget:l.getD pre.length 0=c:=by rw[hr];simp
  have hsp:(l.take (pre.length+1)).drop pre.length=[c]:=by rw[hr,show pre++c::rest=(pre++[c])++rest by simp,Xj Sx,Xk rfl]
  have hpc:=q0p pre
  rcases qmb hV with⟨h0,_⟩|⟨ver,cap,pad,rfl,rfl,hvl,hvw,hvle,hvm⟩
  .exact absurd (List.map_eq_nil_iff.1 h0) (qed pre)
  simp only[Ql]at hvle
  have hpos:0<(qv pre).length:=Qv.2 (qed pre)
  have hml:((qv pre).map λx=>Sv x).length=(qv pre).length:=Sx
  have hpl:((qv pre).getD ((qv pre).length-1) []).length<=pre.length:=by
   have hlt:(qv pre).length-1<(qv pre).length:=Om
   have e:(qv pre).getD ((qv pre).length-1) []=(qv pre)[(qv pre).length-1]:=by simp[Xo,hlt]
   rw[e]
   exact qc2 pre _ (List.getElem_mem _)
  have hdl:((l.take (pre.length+1)).drop pre.length).length=1:=by rw[hsp];rfl
  have hld:(flat ((qv pre).map λx=>Sv x)++pad)[0+((qv pre).length-1)*1]?=some (Sv ((qv pre).getD ((qv pre).length-1) [])):=by
   rw[q74,Qs,Nat.mul_one,Qb So,Qr]
   have:(qv pre)[(qv pre).length-1]?=some ((qv pre).getD ((qv pre).length-1) []):=by
    have:(qv pre).length-1<(qv pre).length:=Om
    simp[Xo,this]
   rw[this]
   rfl
  repeat' (first|(apply qta;(iterate 5 exact rfl);kernel_rfl)|apply qp|apply q8|apply qj|apply qi|apply qm|(apply qz;(iterate 3 exact rfl))|(apply qh;exact rfl;apply xc;exact cAo)|(apply qh;exact rfl;apply cd_d<;>intro h)|(apply vb;(iterate 3 exact rfl))|(apply yr;(iterate 3 exact rfl);exact cAs)|(apply y9;(iterate 9 exact rfl))|apply qgs|(apply q1d;(iterate 4 exact rfl))|(apply q5k;exact rfl;exact rfl;exact zp Om Om)|(apply q1f;(iterate 4 exact rfl);exact cAs;exact cAs)|(apply qk7;exact rfl;exact rfl;exact cOs)|apply qei|(apply qwj;exact rfl;exact rfl;exact zp Om Om)|apply za|(apply qho (n:=(qv pre).length-1);(iterate 4 exact rfl);(simp;omega);(simp;omega))|(apply qnd;(iterate 4 exact rfl);exact hld))
  .refine quz (xs:=(qv pre).map λx=>Sv x) (ys:=[Sv []]) (sz:=1) (bytes:=16) rfl rfl rfl hV rfl rfl rfl ⟨⟨_,_,rfl,rfl,rfl,rfl,rfl⟩⟩ rfl ?_ ?_ ?_
   .simp[maxLen];omega
   .simp;omega
   intro a' ob' hV'
   repeat' (first|apply qj|apply qi|apply qm|apply qk|(apply ja;exact rfl;exact rfl;exact zp Om Om))
   have hc:c=10:=by rw[hget]at h;exact(qef c).1 h
   refine⟨a',ob',?_,qc3 ⟨rfl,rfl,?_,trivial⟩ rfl⟩
   .rw[hc,quh _ pre (Qc _),Zg]
    exact hV'
   .rw[qcd pre c];rfl
  .refine qpr (k:=0) (sz:=1) rfl rfl rfl rfl rfl rfl rfl rfl rfl (by show 0+((qv pre).length-1)*1+1<=_;rw[hvl];omega) ?_
   repeat' (first|apply qj|apply qi|apply qm|apply qk|(apply ja;exact rfl;exact rfl;exact zp Om Om))
   have hc:c≠10:=λe=>by rw[hget]at h;exact h ((qef c).2 e)
   refine⟨_,_,?_,qc3 ⟨rfl,rfl,?_,trivial⟩ rfl⟩
   .rw[qf6 _ pre c (Qc _) hc,<-hsp]
    have:=zel (o:=st.length+0) (T:=9) (ver:=ver) (sz:=1) hvl hvw (by simpa using hvle) hvm (i:=(qv pre).length-1) (x:=Sv ((qv pre).getD ((qv pre).length-1) []++(l.take (pre.length+1)).drop pre.length)) rfl So
    rw[<-List.map_set]at this
    exact this
   .rw[qcd pre c];rfl
theorem qyk(f:FldV)(st:List AObj)(hl:f.1.length<4294967281):ql E 147 [fldA f] st λr st'=>r=Iv (j5 f)∧st'=st:=by
 refine zr (qt _) (qy Tryz.func147 rfl (Qd rfl) ?_)
 repeat' (first|apply qp|apply qj|apply qi|apply qk|(apply qz;(iterate 3 exact rfl))|(apply w6;exact rfl)|(apply qh;exact rfl;apply cd_n<;>intro h)|(apply qh;exact rfl;apply cd_d<;>intro h)|(apply vb;(iterate 3 exact rfl))|(apply qdc;(iterate 4 exact rfl))|(apply jk;(iterate 3 exact rfl))|(apply kw;(iterate 5 exact rfl))|apply za|apply zg|(apply zf;exact Tryz.call159;exact qyp _ _ hl))
 all_goals refine qs rfl (zj rfl) ⟨congrArg Iv (?_:_=j5 f),_,rfl⟩
 .exact(if_pos (by simp_all):j5 f=5).symm
 .exact((if_neg (by simp_all)).trans (if_pos Om):j5 f=6).symm
 .exact((if_neg (by simp_all)).trans (if_neg Om):j5 f=0).symm
theorem q9s{s:qd}(h:10∉s):qn s=1↔qam s:=by
 unfold qn qam
 rw[if_neg h]
 by_cases hb:∀c∈s,vr c
 .rw[if_pos hb]
  exact⟨λ_=>hb,λ_=>rfl⟩
 .rw[if_neg hb]
  refine⟨λh=>?_,λh=>absurd h hb⟩
  exfalso
  revert h
  repeat' split
  all_goals decide
theorem zaa(l p:qd)(r:List qd)(st:List AObj)(hl:l.length<1000000)(h:qv l=p::r):ql E 149 [Sv l] st λx st'=>x=.sl 1 (Sv p::r.map λx=>Sv x) none∧st'=st:=by
 have:=q4m l st hl
 rw[h]at this
 exact this
theorem q0i{f:Fld}{p:qd}{r:List qd}(h:qv f.2=p::r):zh f=jn f.1 p::r.map λs=>[32]++kz s:=by
 unfold zh
 rw[h]
 rfl
theorem qnt(f:Fld):(zb (zh f)).length<=f.1.length+3*f.2.length+3:=by
 have h1:=qo8 (qv f.2).tail
 have h2:=congrArg Zr (qf5 _ f.2 (Qc _))
 have h3:(jn f.1 ((qv f.2).headD [])).length<=f.1.length+2+((qv f.2).headD []).length:=by
  unfold jn
  split <;>simp <;>omega
 have e:zh f=[jn f.1 ((qv f.2).headD [])]++(qv f.2).tail.map λs=>[32]++kz s:=rfl
 rw[e,xo,qfk]
 simp only[Qa,Qe,Qn]at h2⊢
 omega
theorem qqm:∀(xs:List Fld),(∀f∈xs,f.1.length<4294967281∧f.2.length<1000000)->(zu xs).length<=5000000000*xs.length
 | [],_=>by simp[zu]
 |f::r,h=>by
  have ih:=qqm r λx hx=>h x (by simp[hx])
  have h1:=qnt f
  have h2:=h f Sx
  have e:zu (f::r)=zb (zh f)++zu r:=by simp[zu]
  rw[e,Qa,Qe]
  omega
end Go.Proofs.YtapblfabkbdgcaaGreatDoor
namespace Go.Av
open Go Go.RowKit
@[reducible] def qrb (K : Act → World → Prop) : Exit → Act → World → Prop
 |.normal,a,w=>K a w
 |_,_,_=>False
structure AZ (E:Env) (N:Nat) (ops:Array Oper) (fuel:Nat) (listed:Array Bool) (K:AS->Prop) (s:AS):Prop where
 run:∀(B0:Nat)(w0:World)(G:Gh)(a:Act)(w:World),E.L B0 w0->Inv B0 w0 N G s a w->∀K':Act->World->Prop,(∀G' s' a' w',G.le G'->Inv B0 w0 N G' s' a' w'->K s'->K' a' w')->wpAnyIn (fw none) 0 E.P .any ops (qrb K') fuel listed a w
structure AY (E:Env) (N:Nat) (o:Oper) (s:AS) (r:AV):Prop where
 run:∀(B0:Nat)(w0:World)(G:Gh)(a:Act)(w:World),Inv B0 w0 N G s a w->∃v,(∀w',(execOp a.eval o).run E.P w'=.ok (.value v) w')∧(∀w',o.about E.P w' a.eval=none)∧Rel G r v
section
variable {E : Env} {N : Nat} {ops : Array Oper} {K : AS → Prop} {s : AS} {fuel : Nat} {listed : Array Bool}
theorem qhp{id:Nat}{Q:Exit->AS->Prop}{n:Nat}(hm:E.P.follows .mixedOrders=true)(hn:ops.size=n)(h:AZ E N ops n (Xg n false) (Q .normal) s):AWp E none N (.region id ops true) Q s:=by
 subst hn
 refine⟨λB0 w0 G a w hL hI=>?_⟩
 have hBl:Below w.heap.size w {w with drawn:=w.drawn+1}:=⟨rfl,rfl,rfl,Qc _,λ_ _=>rfl⟩
 have hI2:Inv B0 w0 N G s a {w with drawn:=w.drawn+1}:=⟨hI.agree.fresh hBl,hI.defers,hI.size,hI.tmps⟩
 have:=h.run B0 w0 G a _ hL hI2 (λa' w'=>∃(G':Gh)(s':AS),G.le G'∧Inv B0 w0 N G' s' a' w'∧Q .normal s') λG' s' a' w' hG hI' hk=>⟨G',s',hG,hI',hk⟩
 refine wpIn_mono (wpIn_region_any hm this) λe a' w' hq=>?_
 cases e with
 |normal=>exact hq
 |_=>exact hq.elim
theorem qbk(hr:Region.ready .any ops listed=[])(h:K s):AZ E N ops fuel listed K s:=
 ⟨λB0 w0 G a w hL hI K' hK=>wpAnyIn_done hr (hK G s a w (.refl G) hI h) fuel⟩
theorem xi(i:Nat){oi:Oper}{r:AV}(hi:ops[i]?=some oi)(hs:Region.noSelect ops=true)(hf:Region.free .any ops listed i=true)(hr:(Region.ready .any ops listed).contains i=true)(hg:oi.guard=none)(hy:AY E N oi s r)
  (h:AZ E N ops fuel (listed.setIfInBounds i true) K (s.put oi.dst r)):AZ E N ops (fuel+1) listed K s:=by
 refine⟨λB0 w0 G a w hL hI K' hK=>?_⟩
 obtain⟨v,h1,h2,h3⟩:=hy.run B0 w0 G a w hI
 have hwn:Region.wanted oi (yielded ops a.tmps)=true:=by simp[Region.wanted,hg]
 refine wpAnyIn_take (v:=v) rfl hi hs hf hr (λc a w hq=>hq.elim) ⟨.inl ⟨hwn,h1⟩,h2⟩ (h.run B0 w0 G _ w hL (hI.put (.refl G) hI.agree oi.dst h3) K' λG' s' a' w' hG hI' hk=>hK G' s' a' w' hG hI' hk)
theorem q0l{F:Fence}{n:Nat}{P:Program}{o:Oper}{a:Act}{w:World}{next X Y:Act->World->Prop}(h:o.wpIn F n P a w next (qrb X)):o.wpIn F n P a w next (qrb Y):=by
 unfold Oper.wpIn at *
 refine⟨h.1,?_⟩
 have h:=h.2
 generalize(o.semAt F.round a.eval).run P w=r at *
 cases r with
 |ok x w'=>
  cases x<;>simp only[Oper.uponIn]at h⊢
  case value u=>exact h
  case skip=>exact h
  case defer d=>exact h
  case enter f args=>
   refine⟨h.1,CallsIn.mono h.2 λe w'' he=>?_⟩
   cases e with
   |returned u=>exact he
   |panicked c=>exact he.elim
   |outgrown=>exact absurd he (by simp[LetsOut])
  case row row args=>exact h
  case round l f tmps assign body=>
   refine⟨h.1,RoundIn.mono h.2 λe w'' he=>?_⟩
   cases e with
   |returned u=>exact he
   |panicked c=>exact he.elim
   |outgrown=>exact absurd he (by simp[LetsOut])
 |halt x w'=>
  cases x<;>simp only[Oper.uponIn]at h⊢
  case panic u=>exact h.elim
def qve(P:Nat->Prop):List Nat->Prop
 | []=>True
 |i::r=>P i∧qve P r
theorem qs4{P:Nat->Prop}:∀{l:List Nat},qve P l->∀i∈l,P i
 | [],_,_,h=>by simp at h
 |j::l,h,i,hi=>by
  rcases Qo.1 hi with rfl|hi
  .exact h.1
  .exact qs4 h.2 i hi
theorem v7(rs:List Nat)(hr:Region.ready .any ops listed=rs)(hne:Xu 0 rs.length=true)
  (h:qve (λi=>∃o,ops[i]?=some o∧AOps E none N ops [o] (AZ E N ops fuel (listed.setIfInBounds i true) K) s) rs):AZ E N ops (fuel+1) listed K s:=by
 refine⟨λB0 w0 G a w hL hI K' hK=>wpAnyIn_all hr (λe=>by subst e;simp at hne) λi hi=>?_⟩
 obtain⟨o,ho,h⟩:=qs4 h i hi
 have hrun:=h.run B0 w0 G a w hL hI (qrb λa' w'=>wpAnyIn (fw none) 0 E.P .any ops (qrb K') fuel (listed.setIfInBounds i true) a' w') λG' s' a' w' hG hI' hk=>hk.run B0 w0 G' a' w' hL hI' K' λG2 s2 a2 w2 hG2 hI2 hk2=>hK G2 s2 a2 w2 (hG.trans hG2) hI2 hk2
 unfold wpOpIn
 rw[ho]
 simp only[wpListIn]at hrun⊢
 split
 .rename_i hw
  rw[if_pos hw]at hrun
  exact q0l hrun
 .rename_i hw
  rw[if_neg hw]at hrun
  exact hrun
variable {d : Option Tmp} {T : TypeId} {p : String} {af : Array Edge}
theorem zbe{op:Op}{r:AV}(hnc:∀c,op≠.call c)(h:∀(G:Gh)(ρ:Operand->Value),(∀x,Rel G (qg N s x) (ρ x))->∃v,(∀w',(execOp ρ ⟨d,op,T,p,af,none⟩).run E.P w'=.ok (.value v) w')∧Rel G r v):AY E N ⟨d,op,T,p,af,none⟩ s r:=
 ⟨λB0 w0 G a w hI=>let ⟨v,h1,h2⟩:=h G a.eval hI.eval;⟨v,h1,λw'=>by unfold Oper.about;cases op<;>first|rfl|exact absurd rfl (hnc _),h2⟩⟩
theorem yb{x:Operand}:AY E N ⟨d,.move x,T,p,af,none⟩ s (qg N s x):=zbe nofun λG ρ hρ=>⟨ρ x,λw'=>by simp[execOp],hρ x⟩
theorem qtd{x:Operand}:AY E N ⟨d,.assign x,T,p,af,none⟩ s (qg N s x):=zbe nofun λG ρ hρ=>⟨ρ x,λw'=>by simp[execOp],hρ x⟩
end
theorem qsb{E:Env}{rd:Option Nat}{N:Nat}{c:Code}{Q:Exit->AS->Prop}{s:AS}(I:AS->Prop)(h:AWp E rd N c (only I) s)(hk:∀s',I s'->Q .normal s'):AWp E rd N c Q s:=h.mono λe s' h=>by
 cases e<;>first|exact hk _ h|exact h.elim
end Go.Av
namespace Go.Proofs.YtapblfabkbdgcaaGreatDoor
open Go Go.Av Go.RowKit Go.Proofs Go.Pl
theorem qh7{l:qd}:qn l=4↔10∉l∧58∈l∧x4 (zx l):=by
 unfold qn
 by_cases h10:10∈l
 .simp[h10]
 .rw[if_neg h10]
  constructor
  .intro h
   split at h
   .simp at h
   .split at h
    .simp at h
    .split at h
     .simp at h
     .split at h
      .rename_i hk;exact⟨h10,hk.1,hk.2⟩
      .simp at h
  .rintro⟨_,h58,hk⟩
   obtain⟨c,hc,hb,h35⟩:=qh6 hk
   have hh:l.head?=some c:=by
    cases l with
    |nil=>simp at h58
    |cons a r=>
     unfold zx at hc
     rw[Zy]at hc
     split at hc
     .simpa using hc
     .simp at hc
   have hmem:c∈l:=Xe hh
   rw[if_neg (λh'=>hb (h' c hmem)),if_neg (by rw[hh];simpa using h35),if_neg (λ⟨d,hd,hd'⟩=>by rw[hh]at hd;cases hd;exact hb hd'),if_pos ⟨h58,hk⟩]
theorem q3z(l:qd)(st:List AObj)(hl:l.length<4294967281)(h:qn l=4):ql E 194 [Sv l] st λr st'=>r=.tu [Sv (zx l),Sv (jw l),Bv true]∧st'=st:=by
 refine zr (ql2 _ _ _) (qy Tryz.func194 rfl (Qd rfl) ?_)
 have hc:Lib.cut l [58]=(zx l,jw l,true):=by rw[qtj,if_pos (qh7.1 h).2.1]
 repeat' (first|apply qp|apply qj|apply qi|apply qm|apply qk|(apply kf;exact rfl;exact rfl)|(apply qz;(iterate 3 exact rfl))|(apply qh;exact rfl;apply yi;exact cAo)|apply za|apply zg|(apply zf;exact Tryz.call121;exact qlm _ _ hl)|(apply zf;exact Tryz.call39;exact q3g _ _ _ hl))
 refine qs rfl (qfx rfl) ⟨qze (?_:_=_),_,rfl⟩
 rw[hc]
theorem q0h(l:qd)(st:List AObj)(hl:l.length<4294967281)(h:qn l≠4):ql E 194 [Sv l] st λr st'=>r=.tu [Sv [],Sv [],Bv false]∧st'=st:=by
 refine zr (ql2 _ _ _) (qy Tryz.func194 rfl (Qd rfl) ?_)
 repeat' (first|apply qp|apply qj|apply qi|apply qm|apply qk|(apply qz;(iterate 3 exact rfl))|(apply qh;exact rfl;apply xc;exact cAo)|apply zg|(apply zf;exact Tryz.call121;exact qlm _ _ hl))
 exact qs rfl (qfx rfl) ⟨rfl,_,rfl⟩
def qev(ls:List qd):AV:=.tu [fldA (z7 ls).1,errN (z7 ls).2]
theorem qzf(ls:List qd):Pure (qev ls):=qdt λx hx=>by
 simp only[Qo,Qu,or_false]at hx
 rcases hx with rfl|rfl
 .exact qmx λx hx=>by
   simp only[Qo,Qu,or_false]at hx
   rcases hx with rfl|rfl <;>exact qt _
 .exact qh2 _
structure LsB (ls:List qd):Prop where
 len:ls.length<1000000
 val:∀s∈ls,s.length<1000000
theorem qo7:∀(r:List qd),(∀s∈r,s.length<1000000)->(r.flatMap λs=>[10]++vo 46 (s.drop 1)).length<=1000001*r.length
 | [],_=>by simp
 |a::r,h=>by
  have ih:=qo7 r λs hs=>h s (by simp[hs])
  have ha:=h a Sx
  have ht:(vo 46 (a.drop 1)).length<=a.length:=by unfold vo;split <;>simp <;>omega
  simp only[Qq,Qa,Qe,Qn]
  omega
theorem q6o(v:qd)(r:List qd):Lib.join (v::r.map λs=>vo 46 (s.drop 1)) [10]=v++r.flatMap λs=>[10]++vo 46 (s.drop 1):=by
 rw[Lib.join_cons]
 unfold Lib.joinTail
 rw[Xd,List.flatMap_def]
 rfl
theorem zc5(xs:List qd)(tip:Option Nat)(sep v:qd)(st:List AObj)(h:Lib.join xs sep=v)(hN:xs.length<=140737488355328)(hl:v.length<=140737488355328):ql E 105 [.sl 1 (xs.map λx=>Sv x) tip,Sv sep] st λr st'=>r=Sv v∧st'=st:=by
 subst h
 exact q6n xs tip sep st hN hl
theorem q7m(l:qd)(st:List AObj)(hl:l.length<4294967281)(h:qn l=4):ql E 115 [Sv l] st λr st'=>r=.tu [Sv (zx l),Sv (jw l),Bv true]∧st'=st:=by
 have:=qym l st hl
 have e:qc8 l=(zx l,jw l,true):=if_pos (qh7.1 h)
 rw[e]at this
 exact this
theorem qi7{s:qd}(h:qn s=3):2<=s.length∧10∉s:=by
 have h10:10∉s:=λh'=>by unfold qn at h;rw[if_pos h']at h;simp at h
 refine⟨?_,h10⟩
 unfold qn at h
 rw[if_neg h10]at h
 split at h
 .simp at h
 .rename_i hb
  split at h
  .simp at h
  .split at h
   .rename_i hbl
    obtain⟨c,hc,hcb⟩:=hbl
    match s,hc with
    | [a],hc=>
     simp at hc
     subst hc
     exact absurd (by simpa using hcb) hb
    |a::b::r,_=>simp
   .split at h<;>simp at h
def qba(ls:List qd):AV:=.tu [fldA (z7 ls).1,Iv (z7 ls).2]
theorem qri(ls:List qd):Pure (qba ls):=qdt λx hx=>by
 simp only[Qo,Qu,or_false]at hx
 rcases hx with rfl|rfl
 .exact qmx λx hx=>by
   simp only[Qo,Qu,or_false]at hx
   rcases hx with rfl|rfl <;>exact qt _
 .exact qt _
def accU(l:qd)(pre:List qd):qd:=vo 32 (jw l)++pre.flatMap λs=>[10]++vo 46 (s.drop 1)
theorem q5b(l:qd)(pre:List qd)(a:qd):accU l (pre++[a])=(accU l pre++[10])++vo 46 (a.drop 1):=by
 unfold accU
 rw[List.flatMap_append]
 simp
theorem q8j(l:qd)(pre:List qd)(h:∀s∈pre,s.length<1000000):(accU l pre).length<=l.length+1000001*pre.length:=by
 have htr:(vo 32 (jw l)).length<=l.length:=by unfold vo jw;split <;>simp <;>omega
 have:=qo7 pre h
 unfold accU
 rw[Qa]
 omega
theorem qvx(c:UInt8):((c.toNat:Nat):Int)=46↔c=46:=u8i c 46 Om
theorem qj1{α:Type}{P:α->Prop}{pre:List α}{a:α}(h:∀x∈pre,P x)(ha:P a):∀x∈pre++[a],P x:=λx hx=>by
 rcases Za.1 hx with hx|hx
 .exact h x hx
 .simp at hx;subst hx;exact ha
end Go.Proofs.YtapblfabkbdgcaaGreatDoor
namespace Go.Pl
open Go Go.Proofs
structure LnV where
 no:Nat
 at':Nat
 text:qd
 ended : Bool
def wl(k a:Nat)(l:qd):List LnV:=if h:l=[]then []else⟨k,a,upto 10 l,decide (10∈l)⟩::wl (k+1) (a+(upto 10 l).length+1) (past 10 l)
 termination_by l.length
 decreasing_by exact wx h
def lns(l:qd):List LnV:=wl 0 0 l
theorem qcp(k a:Nat):wl k a []=[]:=by unfold wl;simp
theorem qb7{k a:Nat}{l:qd}(h:l≠[]):wl k a l=⟨k,a,upto 10 l,decide (10∈l)⟩::wl (k+1) (a+(upto 10 l).length+1) (past 10 l):=by
 conv=>lhs;unfold wl
 rw[dif_neg h]
def whole(l:qd):Prop:=l=[]∨l.getLast?=some 10
theorem q44{l:qd}(h:whole l)(hne:l≠[]):10∈l∧whole (past 10 l):=by
 have hl:l.getLast?=some 10:=h.resolve_left hne
 have h10:10∈l:=List.mem_of_getLast? hl
 refine⟨h10,?_⟩
 by_cases hp:past 10 l=[]
 .exact .inl hp
 .refine .inr ?_
  have e:=yn h10
  rw[e]at hl
  rw[List.getLast?_append,List.getLast?_cons]at hl
  cases hg:(past 10 l).getLast? with
  |none=>exact absurd (List.getLast?_eq_none_iff.1 hg) hp
  |some c=>rw[hg]at hl;simpa using hl
theorem qsk:∀(n:Nat)(d x:qd)(k a:Nat),d.length<=n->whole d->wl k a (d++x)=wl k a d++wl (k+(wl k a d).length) (a+d.length) x
 |n,d,x,k,a,hn,hw=>by
  by_cases hd:d=[]
  .subst hd
   simp[qcp]
  .obtain⟨h10,hw'⟩:=q44 hw hd
   have e:=yn h10
   have hlt:=wx (c:=10) hd
   cases n with
   |zero=>omega
   |succ n=>
    have e2:d++x=upto 10 d++10::(past 10 d++x):=(congrArg (· ++x) e).trans Sx
    have hu:upto 10 (d++x)=upto 10 d:=by rw[e2];exact xy _ (qah 10 d)
    have hp:past 10 (d++x)=past 10 d++x:=by rw[e2];exact yw _ (qah 10 d)
    have hdl:d.length=(upto 10 d).length+1+(past 10 d).length:=by
     have:=congrArg Zr e
     simp at this
     omega
    rw[qb7 (l:=d++x) (by simp[hd]),qb7 hd,hu,hp,qsk n (past 10 d) x _ _ Om hw']
    have h1:10∈d++x:=by simp[h10]
    simp only[h1,h10,Zl,Qe]
    congr 2
    have e3:∀m:Nat,k+1+m=k+(m+1):=λm=>by omega
    rw[e3]
    congr 1
    omega
theorem zdd{c:qd}(k a:Nat)(h:10∉c):wl k a (c++[10])=[⟨k,a,c,true⟩]:=by
 rw[qb7 Sx,xy [] h,yw [] h,qcp]
 simp
theorem q9v{c:qd}(k a:Nat)(h:10∉c)(hne:c≠[]):wl k a c=[⟨k,a,c,false⟩]:=by
 rw[qb7 hne,qcf h]
 have:past 10 c=[]:=by
  unfold past
  rw[qcf h]
  simp
 rw[this,qcp]
 simp[h]
theorem qh9:∀(n:Nat)(l:qd)(k a:Nat),l.length<=n->(wl k a l).length<=l.length
 |n,l,k,a,hn=>by
  by_cases h:l=[]
  .subst h;simp[qcp]
  .have hlt:=wx (c:=10) h
   cases n with
   |zero=>omega
   |succ n=>
    rw[qb7 h,Qe]
    have:=qh9 n (past 10 l) (k+1) (a+(upto 10 l).length+1) Om
    omega
theorem qt6:∀(n:Nat)(l:qd)(k a:Nat),l.length<=n->(wl k a l).map (λx=>(x.text,x.ended))=zy l
 |n,l,k,a,hn=>by
  by_cases h:l=[]
  .subst h;simp[qcp,vm]
  .have hlt:=wx (c:=10) h
   cases n with
   |zero=>omega
   |succ n=>rw[qb7 h,wz h,Qp,qt6 n _ _ _ Om]
end Go.Pl
namespace Go.Proofs.YtapblfabkbdgcaaGreatDoor
open Go Go.Av Go.RowKit Go.Proofs Go.Pl
@[reducible] def lnA (x : LnV) : AV := .ag [Iv x.no, Iv x.at', Sv x.text, Bv x.ended]
@[reducible] def lnsA (xs : List LnV) : AV := .sl 4 (xs.map lnA) none
theorem zaf(xs:List LnV):Pure (lnsA xs):=y7 λx hx=>by
 simp only[Xa]at hx
 obtain⟨f,_,rfl⟩:=hx
 intro y hy
 simp[AV.cells]at hy
 rcases hy with rfl|rfl|rfl|rfl <;>exact qt _
set_option maxHeartbeats 4000000 in
theorem q4n(l:qd)(st:List AObj)(hl:l.length<100000000):ql E 76 [Sv l] st λr st'=>r=lnsA (lns l)∧st'=st:=by
 refine zr (zaf _) (qy Tryz.func76 rfl (Qd rfl) ?_)
 repeat' (first|apply qp|apply q8|apply qj|apply qi|apply qk)
 refine q24 (i:=3) (sz:=4) (T':=146) rfl ?_
 refine qdl l (λpre s=>∃d c,pre=d++c∧whole d∧10∉c∧StE [(0,Sv l),(3,.sl 4 ((lns d).map lnA) (some (st.length+0))),(4,Iv d.length),(5,Iv pre.length)] st [.tip (lns d).length 4 146] s) ⟨[],[],rfl,.inl rfl,Sx,qgo ⟨rfl,?_,rfl,rfl,trivial⟩ ?_⟩ ?_ ?_
 .rw[show lns []=[] from qcp 0 0];simp;rfl
 .rw[show lns []=[] from qcp 0 0];show(st++[])++[AObj.tip 0 4 _]=_;simp
 .rintro _ ⟨d,c,hdc,hw,hc,t,ext,rfl⟩
  have hll:l.length=d.length+c.length:=by rw[hdc];simp
  have hcnt:=qh9 _ d 0 0 (Qc _)
  have hcnt':(lns d).length<=d.length:=hcnt
  have hml:((lns d).map lnA).length=(lns d).length:=Sx
  have happ:lns l=lns d++wl (lns d).length d.length c:=by
   unfold lns
   rw[hdc,qsk _ d c 0 0 (Qc _) hw]
   simp
  have hfrom:l.drop d.length=c:=by rw[hdc];simp
  repeat' (first|apply qp|apply qj|apply qi|apply qm|apply qk|(apply qz;(iterate 3 exact rfl))|(apply qh;exact rfl;apply yi;exact cAo)|(apply qh;exact rfl;apply cd_d<;>intro h)|(apply vb;(iterate 3 exact rfl))|(apply js;(iterate 4 exact rfl))|(apply qk3;(iterate 3 exact rfl);exact cAs)|(apply y8;(iterate 3 exact rfl))|(apply y9;(iterate 9 exact rfl))|apply za|apply kh|apply zg|(apply qd1 (n:=(lns d).length) (m:=1) (sz:=4) (bytes:=40);(iterate 4 exact rfl);exact hml;exact rfl;exact rfl;exact⟨⟨_,_,rfl,rfl,rfl,rfl,rfl⟩⟩;exact rfl;exact rfl;(unfold maxLen;omega);omega;exact rfl))
  .have hne:c≠[]:=λe=>by subst e;simp at hll;omega
   have e:AV.sl 4 ((lns d).map lnA++[AV.ag [Iv ((lns d).map lnA).length,Iv d.length,Sv (l.drop d.length),Bv false]]) none=AV.sl 4 ((lns l).map lnA) none:=by
    rw[happ,q9v _ _ hc hne,hml,hfrom,Zg]
    rfl
   exact qs rfl (qpx rfl rfl) ⟨e,qcm _ _ _ _⟩
  .have hce:c=[]:=Zm.1 Om
   refine qs rfl (qpx rfl rfl) ⟨?_,qcm _ _ _ _⟩
   rw[happ,hce,qcp,Zh]
 .rintro pre a rest _ hr ⟨d,c,hdc,hw,hc,t,ext,rfl⟩
  have hlen:l.length=pre.length+(rest.length+1):=by rw[hr];simp
  have hpl:pre.length=d.length+c.length:=by rw[hdc];simp
  have hget:l.getD pre.length 0=a:=by rw[hr];simp
  have hcnt:=qh9 _ d 0 0 (Qc _)
  have hcnt':(lns d).length<=d.length:=hcnt
  have hml:((lns d).map lnA).length=(lns d).length:=Sx
  have hsp:(l.take pre.length).drop d.length=c:=by rw[hr,Xj rfl,hdc,Xk rfl]
  repeat' (first|apply qp|apply q8|apply qj|apply qi|apply qm|apply qk|(apply qz;(iterate 3 exact rfl))|(apply qh;exact rfl;apply xc;exact cAo)|(apply qh;exact rfl;apply cd_d<;>intro h)|(apply vb;(iterate 3 exact rfl))|(apply js;(iterate 4 exact rfl))|(apply ja;exact rfl;exact rfl;exact zp Om Om)|(apply yr;(iterate 3 exact rfl);exact cAs)|(apply qk4;(iterate 4 exact rfl);exact cAs;exact cAs)|(apply y8;(iterate 3 exact rfl))|(apply y9;(iterate 9 exact rfl))|apply za|(apply qd1 (n:=(lns d).length) (m:=1) (sz:=4) (bytes:=40);(iterate 4 exact rfl);exact hml;exact rfl;exact rfl;exact⟨⟨_,_,rfl,rfl,rfl,rfl,rfl⟩⟩;exact rfl;exact rfl;(unfold maxLen;omega);omega;exact rfl))
  .have ha:a=10:=by have h:=(qef _).1 (by assumption:((l.getD pre.length 0).toNat:Int)=10);rw[hget]at h;exact h
   have happ:lns (d++(c++[10]))=lns d++[⟨(lns d).length,d.length,c,true⟩]:=by
    unfold lns
    rw[qsk _ d (c++[10]) 0 0 (Qc _) hw,zdd _ _ hc]
    simp
   refine⟨d++(c++[10]),[],by rw[ha,hdc];simp,.inr Sx,Sx,qc3 ⟨rfl,?_,?_,qsj pre a,trivial⟩ ?_⟩
   .have e:AV.sl 4 ((lns d).map lnA++[AV.ag [Iv ((lns d).map lnA).length,Iv d.length,Sv ((l.take pre.length).drop d.length),Bv true]]) (some (st.length+0))=AV.sl 4 ((lns (d++(c++[10]))).map lnA) (some (st.length+0)):=by
     rw[happ,hml,hsp,Zg]
     rfl
    exact e
   .have e:Iv ((pre.length:Int)+1)=Iv ((d++(c++[10])).length:Nat):=by
     have:(d++(c++[10])).length=pre.length+1:=So
     rw[this]
     rfl
    exact e
   .rw[happ,qcd];rfl
  .have ha:a≠10:=λe=>absurd (by rw[hget];exact(qef _).2 e:((l.getD pre.length 0).toNat:Int)=10) (by assumption)
   exact⟨d,c++[a],by rw[hdc];simp,hw,by simp[hc,Ne.symm ha],qc3 ⟨rfl,rfl,rfl,qsj pre a,trivial⟩ rfl⟩
end Go.Proofs.YtapblfabkbdgcaaGreatDoor
namespace Go.Pl
open Go Go.Proofs
def indF(by':qd)(ls:List (qd×Bool)):qd:=ls.flatMap λx=>by'++x.1++qgk x.2
def qgi(by' l:qd):qd:=indF by' (zy l)
def lsum(ls:List (qd×Bool)):Nat:=(ls.map λx=>x.1.length+(qgk x.2).length).sum
theorem qls:∀(n:Nat)(l:qd),l.length<=n->lsum (zy l)=l.length∧(zy l).length<=l.length
 |n,l,hn=>by
  by_cases h:l=[]
  .subst h;simp[vm,lsum]
  .have hlt:=wx (c:=10) h
   cases n with
   |zero=>omega
   |succ n=>
    obtain⟨h1,h2⟩:=qls n (past 10 l) Om
    rw[wz h]
    unfold lsum at h1⊢
    simp only[Qp,Xq,Qe]
    rw[h1]
    have hp:=ym 10 l
    have hu:=yq 10 l
    by_cases h10:10∈l
    .have:=qjh h10
     simp[h10,qgk]
     omega
    .have hu2:(upto 10 l).length=l.length:=by rw[qcf h10]
     have hpos:=Qv.2 h
     simp[h10,qgk]
     omega
theorem qxj(by':qd):∀(ls:List (qd×Bool)),(indF by' ls).length=lsum ls+by'.length*ls.length
 | []=>by simp[indF,lsum]
 |x::r=>by
  have ih:=qxj by' r
  simp only[indF,lsum,Qq,Qa,Qp,Xq,Qe]at ih⊢
  rw[ih,Nat.mul_add]
  omega
def qbw(x:LnV):qd×Bool:=(x.text,x.ended)
theorem q6s(l:qd):(lns l).map qbw=zy l:=qt6 _ l 0 0 (Qc _)
end Go.Pl
namespace Go.Av
open Go Go.RowKit
def TipC(b:Nat)(st:List AObj)(sz:Nat)(T:TypeId)(xs:List AV)(c:AV):Prop:=(xs=[]∧c=z0)∨∃t,c=.sl sz xs (some t)∧st[t]?=some (.tip xs.length sz T)∧b<=t
structure Fr (st st':List AObj) (t:Nat):Prop where
 len:st.length<=st'.length
 same:∀k,k≠t->k<st.length->st'[k]?=st[k]?
theorem za7(b:Nat)(st:List AObj)(sz:Nat)(T:TypeId):TipC b st sz T [] z0:=.inl ⟨rfl,rfl⟩
theorem qhh{b:Nat}{st l:List AObj}{sz:Nat}{T:TypeId}{xs:List AV}{c:AV}(h:TipC b st sz T xs c):TipC b (st++l) sz T xs c:=by
 rcases h with h|⟨t,h1,h2,h3⟩
 .exact .inl h
 .exact .inr ⟨t,h1,by rw[Qb (lt_of_getElem? h2)];exact h2,h3⟩
section
variable {E : Env} {rd : Option Nat} {N : Nat} {ops : Array Oper} {K : AS → Prop} {s : AS} {rest : List Oper} {d : Option Tmp} {T : TypeId} {p : String} {af : Array Edge}
theorem qwa{x y:Operand}{t u T':TypeId}{sz bytes b:Nat}{xs ys:List AV}{tip:Option Nat}{c:AV}{st:List AObj}(hst:s.st=st)(hx:qg N s x=c)(hc:TipC b st sz T' xs c)(hb:b<=st.length)(hy:qg N s y=.sl sz ys tip)
  (ht:E.P.underlying t=some (.slice T')) (hu:E.P.underlying u=some (.slice T')) (hT:wm E.P T' sz bytes) (hone:jl (flat ys)=true) (h63:xs.length+ys.length<=maxLen) (hby:(xs.length+ys.length)*bytes<=140737488355328)
  (h:∀t1 st',st'[t1]?=some (.tip (xs++ys).length sz T')->b<=t1->Fr st st' t1->(c=.sl sz xs (some t1)∨st.length<=t1)->AOps E rd N ops rest K (AS.put ⟨s.t,st',s.df⟩ d (.sl sz (xs++ys) (some t1)))):AOps E rd N ops (⟨d,.call ⟨.builtin .append,#[x,y],#[t,u]⟩,T,p,af,none⟩::rest) K s:=by
 subst hst
 refine qw rfl (qu nofun λB0 w0 G a w _ hI=>?_)
 rcases hc with⟨hxs,hcn⟩|⟨t1,h1,h2,h3⟩
 .subst hxs
  have hle:=G.le_new 0 0 0 false
  have hA:=hI.agree.newTip sz T'
  have hv:a.eval x=.slice none 0 0:=hI.evalv (hx.trans hcn)
  have hn:=hI.agree.n
  obtain⟨news,k1,k2,k3⟩:=xm (P:=E.P) hA ((hI.eval_of hy).mono hle) (by simpa[jl]using hone)
  have hr:Rel (G.new 0 0 0 false) (.sl sz [] (some s.st.length)) (a.eval x):=by
   rw[hv]
   exact .sl0 sz _ none 0 λt ht=>by simp only[Qx]at ht;subst ht;exact⟨by simp[Gh.new,hn],rfl,rfl⟩
  obtain⟨v',w',G',e1,e2,e3,e4⟩:=qav (ty:=T) hA ht hu (.inr ⟨_,rfl⟩) hT (t:=s.st.length) (n:=0) Sx hr rfl rfl k1 k2 k3 (by simpa using h63) (by simpa using hby)
  refine⟨v',w',G',_,_,?_,hle.trans e2,e3,e4,h s.st.length _ ?_ hb ⟨Sx,λk hk hlt=>?_⟩ (.inr (Qc _))⟩
  .generalize a.eval=ρ at e1
   simp[execOp,resolve,invoke,builtin,e1]
  .simp
  .rw[Qh (Ne.symm hk),Qb hlt]
 .obtain⟨news,k1,k2,k3⟩:=xm (P:=E.P) hI.agree (hI.eval_of hy) (by simpa[jl]using hone)
  obtain⟨v',w',G',e1,e2,e3,e4⟩:=qav (ty:=T) hI.agree ht hu (.inr ⟨_,rfl⟩) hT h2 (hI.eval_of (hx.trans h1)) rfl rfl k1 k2 k3 h63 hby
  refine⟨v',w',G',_,_,?_,e2,e3,e4,h t1 _ ?_ h3 ⟨Sx,λk hk hlt=>?_⟩ (.inl h1)⟩
  .generalize a.eval=ρ at e1
   simp[execOp,resolve,invoke,builtin,e1]
  .rw[Qa]
   exact kp h2
  .rw[Qh (Ne.symm hk)]
theorem qk2{t:TypeId}{x:Operand}{r:AV}{cs:List AV}(hx:qg N s x=r)(hok:r.okc=true)(hc:r.cells=cs)
  (h:AOps E rd N ops rest K (s.put d (.pp cs))):AOps E rd N ops (⟨d,.box t x,T,p,af,none⟩::rest) K s:=by
 refine qw rfl (qu nofun λB0 w0 G a w _ hI=>?_)
 have hr:=(hI.eval_of hx).cells hok
 rw[hc]at hr
 obtain⟨hle,hA⟩:=hI.agree.newPub t (a.eval x).cells (0,0) (a.eval x).cells.toList (λi y hy=>by simpa using hy)
 have hrun:(execOp a.eval ⟨d,.box t x,T,p,af,none⟩).run E.P w=.ok (.value (.pointer (some ⟨w.heap.size,0,none⟩))) (w.alloc (.cells (a.eval x).cells t)):=by
  generalize a.eval=ρ
  simp[execOp,Instr.box,newVar,newRow,newObj,Sem.run]
 refine⟨_,_,_,.pp cs,s.st,hrun,hle,hA,.pp cs w.heap.size 0 (a.eval x).cells.toList (by simp[Gh.publish]) (by rw[hr.1];simp) λi x y hx hy=>(hr.2 i x y hx (by simpa using hy)).mono hle,h⟩
end
theorem qm7{E:Env}{f:FuncId}{x x':AV}{us:List AV}{st:List AObj}{R:AV->List AObj->Prop}(hw:∀G v,Rel G x v->Rel G x' v)(h:ql E f (x'::us) st R):ql E f (x::us) st R:=
 ⟨λB0 w0 G vals w hL hA hR=>h.run B0 w0 G vals w hL hA ⟨by have:=hR.1;simpa using this,λi a b ha hb=>by
  cases i with
  |zero=>simp at ha;subst ha;exact hw G b (hR.2 0 x b rfl hb)
  |succ i=>exact hR.2 (i+1) a b (by simpa using ha) hb⟩⟩
theorem qdf{st l:List AObj}{o:Nat}{x:AObj}(h:st[o]?=some x):(st++l)[o]?=some x:=by
 rw[Qb (lt_of_getElem? h)];exact h
theorem wu{st:List AObj}{x:AObj}:(st++[x])[st.length]?=some x:=Sx
section
variable {E : Env} {rd : Option Nat} {N : Nat} {ops : Array Oper} {K : AS → Prop} {s : AS} {rest : List Oper} {d : Option Tmp} {T : TypeId} {p : String} {af : Array Edge}
theorem qzn{t:TypeId}{st:List AObj}{cs:List AV}(hst:s.st=st)(hz:qih E.P t=some cs)
  (h:AOps E rd N ops rest K (AS.put ⟨s.t,st++[.cells 0 t cs],s.df⟩ d (.bx st.length 0 0))):AOps E rd N ops (⟨d,.alloc t,T,p,af,none⟩::rest) K s:=
 wh (loc:=[]) (by rw[hst];simp) hz h
theorem q5e{t:TypeId}{x:Operand}{st:List AObj}{r:AV}{cs:List AV}(hst:s.st=st)(hx:qg N s x=r)(hok:r.okc=true)(hc:r.cells=cs)
  (h:AOps E rd N ops rest K (AS.put ⟨s.t,st++[.cells 0 t cs],s.df⟩ d (.bx st.length 0 0))):AOps E rd N ops (⟨d,.box t x,T,p,af,none⟩::rest) K s:=
 qdc (loc:=[]) (by rw[hst];simp) hx hok hc h
end
theorem qjo{st st':List AObj}(hl:st.length<=st'.length)(h:∀k,k<st.length->st'[k]?=st[k]?):∃ext,st'=st++ext:=by
 refine⟨st'.drop st.length,?_⟩
 apply Qy
 intro k
 by_cases hk:k<st.length
 .rw[h k hk,Qb hk]
 .rw[Qi Om,Qk]
  congr 1
  omega
end Go.Av
namespace Go.Proofs.YtapblfabkbdgcaaGreatDoor
open Go Go.Av Go.RowKit Go.Proofs
def qg8(x:Option AObj):Prop:=∀n sz T,x≠some (.tip n sz T)
theorem yv{ver:Nat}{T:TypeId}{cs:List AV}{x:Option AObj}(h:x=some (.cells ver T cs)):qg8 x:=λn sz T' e=>by
 rw[h]at e
 simp at e
end Go.Proofs.YtapblfabkbdgcaaGreatDoor
namespace Go.Proofs.YtapblfabkbdgcaaGreatDoor
open Go Go.Av Go.RowKit Go.Proofs Go.Pl
structure Ext (n:Nat) (S S':List AObj):Prop where
 len:S.length<=S'.length
 low:∀k,k<n->S'[k]?=S[k]?
 tips:∀(t m sz:Nat)(T:TypeId),S[t]?=some (AObj.tip m sz T)->S'[t]?=S[t]?
theorem qgg{n:Nat}{S l:List AObj}(h:n<=S.length):Ext n S (S++l):=⟨Sx,λk hk=>Qb Om,λt m sz T ht=>Qb (lt_of_getElem? ht)⟩
theorem qcn{n o:Nat}{S:List AObj}{x:AObj}(h:n<=o)(hn:qg8 S[o]?):Ext n S (S.set o x):=⟨Sx,λk hk=>Qh Om,λt m sz T ht=>Qh (λe=>by subst e;exact hn _ _ _ ht)⟩
theorem Ext.weak{n m:Nat}{S S':List AObj}(h:Ext n S S')(hm:m<=n):Ext m S S':=⟨h.len,λk hk=>h.low k Om,h.tips⟩
theorem Ext.trans{n:Nat}{S S' S'':List AObj}(h:Ext n S S')(k:Ext n S' S''):Ext n S S'':=⟨Nat.le_trans h.len k.len,λi hi=>(k.low i hi).trans (h.low i hi),λt m sz T ht=>(k.tips t m sz T ((h.tips t m sz T ht).trans ht)).trans (h.tips t m sz T ht)⟩
theorem q73(text:List UInt8)(o kb ver n m:Nat)(I:Nat->List UInt8->List AObj->Prop)(D:List AObj->Prop)(S:List AObj)(hm:S.length=m)(hn:n<=m)(ht:text.length<4294967281)(h0:I 0 text S)
  (hI:∀k rest S',I k rest S'->S'[kb]?=some (.cells ver 9 [Sv text]))
  (hst:∀k rest S' S'',Ext n S' S''->I k rest S'->I k rest S'')
  (hY:∀k rest S' cs,I k rest S'->S'[m]?=some (.cells 0 164 cs)->rest≠[]->rest.length<=text.length->qbx E o [qvo k text rest] S' λb S''=>S''[m]?=some (.cells 0 164 cs)∧(b=true->I (k+1) (past 10 rest) S'')∧(b=false->D S'')):
  ql E 120 [.yd o,.bx kb ver 0] S λr S'=>(∃k,I k [] S')∨D S':=by
 subst hm
 refine qy Tryz.func120 rfl (Qd rfl) ?_
 have hb:=hI 0 text S h0
 repeat' (first|apply qp|apply q8|apply qj|apply qi|apply qk|(apply wh;exact rfl;exact rfl)|(apply vf;(iterate 11 exact rfl))|(apply y8;(iterate 3 exact rfl))|(apply qkt;exact rfl;exact rfl;exact hb;exact rfl;exact rfl))
 refine ko (λ(x:Nat×List UInt8)s=>match x with|(k,rest)=>∃S' at' ta eb,I k rest S'∧k+rest.length<=text.length∧at'=(text.length:Int)-rest.length∧S'[S.length]?=some (.cells 0 164 [Iv k,Iv at',Sv ta,Bv eb])∧StA [(0,.yd o),(1,.bx kb ver 0),(3,.bx S.length 0 0),(4,Sv rest)] S' [] s) (λx=>x.2.length) (0,text)
  ⟨_,0,[],false,hst _ _ _ _ (qgg hn) h0,Sx,Sx,yc (k:=0) rfl,jx ⟨rfl,rfl,rfl,rfl,trivial⟩⟩ ?_
 rintro⟨k,rest⟩ _ ⟨S',_,ta,eb,hi,hle,rfl,hown,t,rfl⟩
 have hb':=hI k rest S' hi
 repeat' (first|apply qp|apply q8|apply qj|apply qi|apply qm|apply qk|(apply kf;exact rfl;exact rfl)|(apply x8;(iterate 3 exact rfl))|(apply qh;exact rfl;apply cd_d<;>intro h)|(apply jk;(iterate 3 exact rfl))|apply za|apply kh|(apply zf;exact Tryz.call39;exact ze0 _ _ _ Om)|(apply ve;exact rfl;(focus first|assumption|(repeat' (first|assumption|exact wu|exact yc rfl|apply kp|apply vt|omega|apply qdf)));exact rfl;exact rfl)|(apply qbg;exact rfl;exact rfl;(focus first|assumption|(repeat' (first|assumption|exact wu|exact yc rfl|apply kp|apply vt|omega|apply qdf)));(iterate 6 exact rfl)))
 .have e1:Ext n S' ((S'.set S.length (.cells 0 164 [Iv k,Iv ((text.length:Int)-rest.length),Sv (upto 10 rest),Bv eb])).set S.length (.cells 0 164 [Iv k,Iv ((text.length:Int)-rest.length),Sv (upto 10 rest),Bv (decide (10∈rest))])):=
   (qcn hn (yv hown)).trans (qcn hn (yv (kp hown)))
  apply qiw (o:=o) rfl
  refine qbx.mono (hY k rest _ _ (hst _ _ _ _ e1 hi) (kp (kp hown)) h Om) ?_
  rintro b S2 ⟨hown2,h1,h2⟩
  show AOps _ _ _ _ _ _ _
  cases b
  .skip
   repeat' (first|apply qi|(apply w6;exact rfl)|(apply qh;exact rfl;apply qp1;exact cRa)|apply zg)
   exact qs rfl (qb0 rfl) (.inr (h2 rfl))
  .have hi3:=h1 rfl
   have hb3:=hI _ _ _ hi3
   have hp:=ym 10 rest
   have hr0:0<rest.length:=Qv.2 h
   have hkb:kb≠S.length:=λe=>by
    rw[e,hown2]at hb3
    simp at hb3
   repeat' (first|apply qp|apply qj|apply qi|apply qm|(apply w6;exact rfl)|(apply qh;exact rfl;apply q28;exact cRa)|(apply vb;(iterate 3 exact rfl))|(apply ja;exact rfl;exact rfl;exact zp Om Om)|(apply qeh;exact rfl;exact rfl;exact zp Om Om)|(apply jk;(iterate 3 exact rfl))|apply za|(apply ve;exact rfl;exact vt hb3 (Ne.symm hkb);exact rfl;exact rfl)|(apply ve;exact rfl;(focus first|assumption|(repeat' (first|assumption|exact wu|exact yc rfl|apply kp|apply vt|omega|apply qdf)));exact rfl;exact rfl)|(apply qbg;exact rfl;exact rfl;(focus first|assumption|(repeat' (first|assumption|exact wu|exact yc rfl|apply kp|apply vt|omega|apply qdf)));(iterate 6 exact rfl)))
   have e2:Ext n S2 _:=(qcn hn (yv hown2)).trans (qcn (x:=.cells 0 164 [Iv ((k:Int)+1),Iv ((text.length:Int)-(past 10 rest).length),Sv (upto 10 rest),Bv (decide (10∈rest))]) hn (yv (kp (y:=.cells 0 164 [Iv ((k:Int)+1),Iv ((text.length:Int)-rest.length),Sv (upto 10 rest),Bv (decide (10∈rest))]) hown2)))
   exact⟨(k+1,past 10 rest),⟨_,_,_,_,hst _ _ _ _ e2 hi3,Om,rfl,kp (kp hown2),jx ⟨rfl,rfl,rfl,rfl,trivial⟩⟩,by simp only;omega⟩
 .have hr:rest=[]:=Classical.not_not.1 h
  subst hr
  exact qs rfl (qb0 rfl) (.inl ⟨k,hi⟩)
structure ItC (g:FuncId) (T:TypeId) (cs:List AV) {ι:Type} (Y:ι->Option (AV×ι)) (i0:ι):Prop where
 run:∀(o kb n m:Nat)(I:ι->List AObj->Prop)(D:List AObj->Prop)(S:List AObj),S.length=m->n<=m->I i0 S->
  (∀i S',I i S'->S'[kb]?=some (.cells 0 T cs))->(∀i S' S'',Ext n S' S''->I i S'->I i S'')->
  (∀i x j S'(own:List AObj),I i S'->(∀k y,own[k]?=some y->S'[m+k]?=some y∧qg8 (some y))->Y i=some (x,j)->qbx E o [x] S' λb S''=>(∀k y,own[k]?=some y->S''[m+k]?=some y)∧(b=true->I j S'')∧(b=false->D S''))->
  ql E g [.yd o,.bx kb 0 0] S λr S'=>(∃i,Y i=none∧I i S')∨D S'
def ql9(text:List UInt8):Nat×List UInt8->Option (AV×(Nat×List UInt8))
 |(k,rest)=>if rest=[]∨text.length<rest.length then none else some (qvo k text rest,(k+1,past 10 rest))
theorem za0(text:List UInt8)(ht:text.length<4294967281):ItC 120 9 [Sv text] (ql9 text) (0,text):=⟨λo kb n m I D S hm hn h0 hI hst hY=>by
 refine(q73 text o kb 0 n m (λk rest S=>I (k,rest) S∧rest.length<=text.length) D S hm hn ht ⟨h0,Qc _⟩ (λk rest S' h=>hI _ _ h.1) (λk rest S' S'' hE h=>⟨hst _ _ _ hE h.1,h.2⟩) (λk rest S' cs hi hown hne hle=>?_)).mono ?_
 .refine(hY (k,rest) (qvo k text rest) (k+1,past 10 rest) S' [.cells 0 164 cs] hi.1 (λj y hy=>?_) (if_neg λh=>h.elim hne Om)).mono λb S'' ⟨h1,h2,h3⟩=>⟨by have:=h1 0 _ rfl;simpa using this,λhb=>⟨h2 hb,by have:=ym 10 rest;omega⟩,h3⟩
  match j with
  |0=>
   simp only[List.getElem?_cons_zero,Qx]at hy
   subst hy
   exact⟨hown,yv rfl⟩
  |j+1=>simp at hy
 .rintro r S' (⟨k,h⟩|h)
  .exact .inl ⟨(k,[]),by simp[ql9],h.1⟩
  .exact .inr h⟩
@[reducible] def zf2 (n : Nat) (F : LoopState → Option Code → AObj) (own : List AObj) (I : List AObj → Prop) (D : Code → List AObj → Prop) : Exit → AS → Prop
 |.normal,s=>s.st[n]?=some .dfr∧s.st[n+1]?=some (F .busy none)∧(∀k y,own[k]?=some y->s.st[n+2+k]?=some y)∧I s.st
 |.ret,s=>s.st[n]?=some .dfr∧s.st[n+1]?=some (F .busy none)∧(∀k y,own[k]?=some y->s.st[n+2+k]?=some y)∧D .ret s.st
 |.exit id,s=>s.st[n]?=some .dfr∧s.st[n+1]?=some (F .busy none)∧(∀k y,own[k]?=some y->s.st[n+2+k]?=some y)∧D (.exit id) s.st
 |_,_=>False
theorem qg9{N:Nat}{t:Nat->AV}{ps:Array Tmp}{asg body:Code}{F:LoopState->Option Code->AObj}(hF:qvh F N t ps asg body)(ls:LoopState)(pend:Option Code){x:Option AObj}(h:x=some (F ls pend)):qg8 x:=λn sz T' e=>by
 rw[h,hF]at e
 simp at e
theorem qwn{N:Nat}{Q:Exit->AS->Prop}{s:AS}{f:Operand}{p:Tmp}{asg body:Code}{S0:List AObj}{kb:Nat}{g:FuncId}{T:TypeId}{cs:List AV}{ι:Type}{Y:ι->Option (AV×ι)}{i0:ι}(hit:ItC g T cs Y i0)(hst:s.st=S0)(hx:qg N s f=.fn (.func g) [] [.bx kb 0 0])
  (hrun:∀vs w,(callFunc g vs).run E.P w=.ok (.enter g vs) w)
  (I:ι->List AObj->Prop) (D:Code->List AObj->Prop) (h0:I i0 S0)
  (hI:∀i S,I i S->S[kb]?=some (.cells 0 T cs))
  (hs1:∀i S S',Ext S0.length S S'->I i S->I i S') (hs2:∀c S S',Ext S0.length S S'->D c S->D c S')
  (hb:∀F(own:List AObj)rd i x j S,qvh F N s.t #[p] asg body->I i S->Y i=some (x,j)->S[S0.length]?=some .dfr->S[S0.length+1]?=some (F .ready none)->(∀k y,own[k]?=some y->S[S0.length+2+k]?=some y∧qg8 (some y))->
   AWp E (some rd) N asg (only λs1=>s1.st[S0.length+1]?=some (F .ready none)∧s1.df=[]∧AWp E (some rd) N body (zf2 S0.length F own (I j) D) ⟨s1.t,s1.st.set (S0.length+1) (F .busy none),[]⟩) ⟨put s.t p x,S,[]⟩)
  (hn:∀i S,Y i=none->I i S->S[S0.length]?=some .dfr->Q .normal ⟨s.t,S,S0.length::s.df⟩)
  (hd:∀c S,D c S->S[S0.length]?=some .dfr->AWp E none N c Q ⟨s.t,S,S0.length::s.df⟩):AWp E none N (.rangeFunc f #[p] asg body) Q s:=by
 refine q25 (st:=S0) (loc:=[]) (by rw[hst];simp) hx hrun λF hF=>?_
 have hl:(S0++([]++[AObj.dfr,F .ready none])).length=S0.length+2:=Sx
 have g1:(S0++([]++[AObj.dfr,F .ready none]))[S0.length]?=some .dfr:=Sx
 have g2:(S0++([]++[AObj.dfr,F .ready none]))[S0.length+1]?=some (F .ready none):=Sx
 have hz:S0.length+(([]:List AObj).length+1)=S0.length+1:=Sx
 rw[hz,show S0.length+([]:List AObj).length=S0.length from rfl]
 refine ql.mono (hit.run (S0.length+1) kb (S0.length+2) (S0.length+2) (λi S=>I i S∧S[S0.length]?=some .dfr∧S[S0.length+1]?=some (F .ready none)) (λS=>∃c,D c S∧S[S0.length]?=some .dfr∧S[S0.length+1]?=some (F .done (some c))) (S0++([]++[.dfr,F .ready none])) hl (Qc _) ⟨hs1 _ _ _ (qgg (Qc _)) h0,g1,g2⟩ (λi S h=>hI i S h.1) (λi S S' hE h=>⟨hs1 _ _ _ (hE.weak Om) h.1,(hE.low _ Om).trans h.2.1,(hE.low _ Om).trans h.2.2⟩) ?_) ?_
 .rintro i x j S' own ⟨hi,hd1,hf1⟩ hown hy
  refine q8v hF hf1 rfl λrd=>?_
  refine(hb F own rd i x j S' hF hi hy hd1 hf1 hown).mono λe s1 hq=>?_
  have fin:∀{S:List AObj}{z:AObj},(∀k y,own[k]?=some y->S[S0.length+2+k]?=some y)->∀k y,own[k]?=some y->(S.set (S0.length+1) z)[S0.length+2+k]?=some y:=λh k y hk=>vt (h k y hk) Om
  cases e with
  |normal=>
   obtain⟨q1,q2,q3⟩:=hq
   refine⟨q1,q2,q3.mono λe s2 hq2=>?_⟩
   cases e with
   |normal=>
    obtain⟨k1,k2,k3,k4⟩:=hq2
    exact⟨k2,fin k3,λ_=>⟨hs1 _ _ _ (qcn Om (qg9 hF _ _ k2)) k4,vt k1 Om,kp k2⟩,nofun⟩
   |ret=>
    obtain⟨k1,k2,k3,k4⟩:=hq2
    exact⟨k2,fin k3,nofun,λ_=>⟨_,hs2 _ _ _ (qcn Om (qg9 hF _ _ k2)) k4,vt k1 Om,kp k2⟩⟩
   |exit id=>
    obtain⟨k1,k2,k3,k4⟩:=hq2
    exact⟨k2,fin k3,nofun,λ_=>⟨_,hs2 _ _ _ (qcn Om (qg9 hF _ _ k2)) k4,vt k1 Om,kp k2⟩⟩
   |_=>exact hq2.elim
  |_=>exact hq.elim
 .rintro r S' (⟨i,hy,hi,hd1,hf1⟩|⟨c,hi,hd1,hf1⟩)
  .exact⟨.ready,none,nofun,hf1,hn i _ hy (hs1 _ _ _ (qcn Om (qg9 hF _ _ hf1)) hi) (vt hd1 Om)⟩
  .exact⟨.done,some c,nofun,hf1,hd c _ (hs2 _ _ _ (qcn Om (qg9 hF _ _ hf1)) hi) (vt hd1 Om)⟩
end Go.Proofs.YtapblfabkbdgcaaGreatDoor
namespace Go.Av
open Go Go.RowKit
theorem qpg{P:Program}{B0:Nat}{w0:World}{G:Gh}{st:List AObj}{w:World}(hA:q9 B0 w0 G st w){tt u ty T:TypeId}{du:TypeDesc}(htt:P.underlying tt=some (.slice T))(hu:P.underlying u=some du)(hd:qgn du)
  {sz bytes:Nat} (hT:wm P T sz bytes) {t n m:Nat} (ht:st[t]?=some (.tip n sz T)) {xs ys:List AV} {x:Value} (hn:xs.length=n) (hm:ys.length=m)
  {news:List Value} (hx:Src P w x m sz news) (hys:∀y∈ys,y.cells.length=sz) (hrel:∀(i:Nat)(a:AV)(b:Value),(flat ys)[i]?=some a->news[i]?=some b->Rel G a b)
  (h63:n+m<=maxLen) (base:Option Addr) (c:Nat) (olds:List Value) (ho:(Builtin.firstCells sz n (.slice base n c)).run P w.drew=.ok olds.toArray w.drew) (hc:c<n+m) (hol:olds.length=n*sz) (hfx:(flat xs).length=n*sz) (hwx:∀x∈xs,x.cells.length=sz)
  (hrx:∀(j:Nat)(a:AV)(b:Value),(flat xs)[j]?=some a->olds[j]?=some b->Rel G a b) (hfit:Builtin.nextslicecap (n+m) c*bytes<=281474976710656) (hm0:m≠0):
  ∃v' w' G',(Builtin.append_ #[tt,u] ty #[.slice base n c,x]).run P w=.ok v' w'∧G.le G'∧q9 B0 w0 G' (st.set t (.tip (n+m) sz T)) w'∧Rel G' (.sl sz (xs++ys) (some t)) v':=by
 obtain⟨i,z,hi,hz,rfl,rfl,hzs⟩:=hT.ex
 obtain⟨hraw,hver,htip⟩:=hA.ob t _ ht
 have htn:t<G.n:=by rw[hA.n];exact lt_of_getElem? ht
 have hlt:G.n=st.length:=hA.n
 have hk:=hA.kill t
 have hkt:(st.set t .dead)[t]?=some .dead:=wc ht
 have hother:∀o x,(st.set t .dead)[o]?=some x->x.live->o≠t∧st[o]?=some x:=λo x hx hl=>by
  rcases getElem?_set' _ _ _ _ _ hx with⟨_,e⟩|⟨h1,h2⟩
  .subst e;exact hl.elim
  .exact⟨h1,h2⟩
 have hset:(st.set t AObj.dead).set t (.tip (n+m) i.size T)=st.set t (.tip (n+m) i.size T):=by rw[Xb]
 have hself:st.set t (.tip n i.size T)=st:=by
  apply Qy
  intro k
  by_cases e:t=k
  .subst e;rw[Zc (lt_of_getElem? ht)];exact ht.symm
  .rw[Qh e]
 have hrun:=qcc (ty:=ty) htt hu hd hi hz hx base n c olds ho hc (by simp only[maxLen]at h63;omega) hfit
 have hge:=grownCap_ge w (n+m) c T
 have hle:=grownCap_le_maxLen w (n+m) c T h63
 generalize grownCap w (n+m) c T=cap at hrun hge hle
 have hsz:(olds.toArray++news.toArray++Builtin.zeroCells z.cells (cap-(n+m))).size=cap*i.size:=by
  simp only[Array.size_append,List.size_toArray,size_zeroCells,hzs,hol,hx.count,<-Qw]
  congr 1
  omega
 generalize hcv:olds.toArray++news.toArray++Builtin.zeroCells z.cells (cap-(n+m))=c' at hrun hsz
 have hdrew:Below w.heap.size w w.drew:=⟨rfl,rfl,rfl,Qc _,λ_ _=>rfl⟩
 have hA1:=hk.fresh hdrew
 have hpre:∀(j:Nat)(y:Value),(olds++news)[j]?=some y->c'[j]?=some y:=λj y hy=>by
  have hj:=lt_of_getElem? hy
  rw[<-hcv,Array.getElem?_append_left (by simp at hj⊢;omega),List.append_toArray]
  simpa using hy
 obtain⟨hle1,hA2⟩:=hA1.newPub T c' (0,0) (olds++news) hpre
 have hnp:G.pub w.heap.size=none:=by
  cases hp:G.pub w.heap.size with
  |none=>rfl
  |some vs=>exact absurd (hA.pub_lt hp) (Xp _)
 obtain⟨hle2,hA3⟩:=hA2.setTip (n':=n+m) (vs:=olds++news) (k:=w.heap.size) (cap:=cap*i.size) (sz:=i.size) (T:=T) hkt (by simpa[Gh.publish]using hraw) (by simpa[Gh.publish]using hver) Om (xu w.drew _) (by simp[Gh.publish]) (by simp[hol,hx.count,Qw]) hsz hA.hB (λo x hx hl=>by
  obtain⟨_,hx'⟩:=hother o x hx hl
  exact Xs ((hA.ob o x hx').lt hl))
 rw[hset]at hA3
 refine⟨_,_,_,hrun,hle1.trans hle2,hA3,?_⟩
 have hmono:∀{a b},Rel G a b->Rel ((G.publish w.drew.heap.size (olds++news)).setOb t ⟨n+m,w.heap.size,cap*i.size,false⟩) a b:=λh=>(h.mono hle1).mono hle2
 refine qs1 (n:=n) (m:=m) (cap:=cap) (k:=w.heap.size) (vs:=olds) (news:=news) (by simp[Gh.setOb]) (by simp[Gh.setOb]) (by simp[Gh.setOb]) hle hge (by simpa[Gh.setOb,Gh.publish]using htn) Om hn hm (by simp[Gh.setOb,Gh.publish]) (λy hy=>?_) hol hx.count hfx (λj a b h1 h2=>hmono (hrx j a b h1 h2)) (λj a b h1 h2=>hmono (hrel j a b h1 h2))
 rcases Za.1 hy with h|h
 .exact hwx y h
 .exact hys y h
def TipO(b:Nat)(st:List AObj)(sz:Nat)(T:TypeId)(xs:List AV)(c:AV):Prop:=TipC b st sz T xs c∨(xs=[]∧∃o v f,c=.os o v f 0 0)
theorem za8(b:Nat)(st:List AObj)(sz:Nat)(T:TypeId):TipO b st sz T [] z0:=.inl (za7 ..)
theorem zej(b:Nat)(st:List AObj)(sz:Nat)(T:TypeId)(o v f:Nat):TipO b st sz T [] (.os o v f 0 0):=.inr ⟨rfl,_,_,_,rfl⟩
theorem zdy{G:Gh}{o v f:Nat}{sz:Nat}{x:Value}(h:Rel G (.os o v f 0 0) x):Rel G (.sl sz [] none) x:=by
 cases h with
 |os _ _ _ _ b _ hn hv h=>exact .sl0 sz none _ _ Sx
section
variable {E : Env} {rd : Option Nat} {N : Nat} {ops : Array Oper} {K : AS → Prop} {s : AS} {rest : List Oper} {d : Option Tmp} {T : TypeId} {p : String} {af : Array Edge}
theorem qv8{x y:Operand}{t u T':TypeId}{sz bytes b:Nat}{xs ys:List AV}{tip:Option Nat}{c:AV}{st:List AObj}(hst:s.st=st)(hx:qg N s x=c)(hy:qg N s y=.sl sz ys tip)
  (ht:E.P.underlying t=some (.slice T')) (hu:E.P.underlying u=some (.slice T')) (hT:wm E.P T' sz bytes) (hc:TipO b st sz T' xs c) (hb:b<=st.length) (hone:jl (flat ys)=true) (h63:xs.length+ys.length<=maxLen) (hby:(xs.length+ys.length)*bytes<=140737488355328)
  (h:∀c' st' t1,TipO b st' sz T' (xs++ys) c'->Fr st st' t1->b<=t1->(c=.sl sz xs (some t1)∨st.length<=t1)->AOps E rd N ops rest K (AS.put ⟨s.t,st',s.df⟩ d c')):AOps E rd N ops (⟨d,.call ⟨.builtin .append,#[x,y],#[t,u]⟩,T,p,af,none⟩::rest) K s:=by
 rcases hc with hc|⟨hxs,o,ver,f,hco⟩
 .refine qwa hst hx hc hb hy ht hu hT hone h63 hby λt1 st' g1 g2 g3 g4=>h _ st' t1 (.inl (.inr ⟨t1,rfl,g1,g2⟩)) g3 g2 g4
 .subst hst
  subst hxs
  refine qw rfl (qu nofun λB0 w0 G a w _ hI=>?_)
  have he:=hI.eval_of (hx.trans hco)
  obtain⟨news,k1,k2,k3⟩:=xm (P:=E.P) hI.agree (hI.eval_of hy) (by simpa[jl]using hone)
  have hex:=hT.ex
  obtain⟨i,z,hi,hz,hsz,hbt,hzs⟩:=hex
  generalize hv:a.eval x=v at he
  cases he with
  |os _ _ _ _ blk _ hn hvv hbb=>
   by_cases hm0:ys.length=0
   .have hy0:ys=[]:=Qf hm0
    subst hy0
    have hk1':Src E.P w (a.eval y) 0 i.size []:=by
     have:news=[]:=Qf (by simpa using k1.count)
     rw[hsz]
     rw[this]at k1
     exact k1
    refine⟨_,w,G,_,s.st,?_,.refl G,hI.agree,.os o ver f 0 blk 0 hn hvv hbb,h _ s.st s.st.length (.inr ⟨rfl,o,ver,f,rfl⟩) ⟨Qc _,λ_ _ _=>rfl⟩ hb (.inr (Qc _))⟩
    have:=qa0 (ty:=T) ht hu (.inr ⟨_,rfl⟩) hi hk1' (some ⟨blk,f,none⟩) 0 0 (Qc _)
    generalize a.eval=ρ at hv this
    simp[execOp,resolve,invoke,builtin,hv,this]
   .have hle:=G.le_new 0 0 0 false
    have hA:=hI.agree.newTip sz T'
    have hz63:0+ys.length<=maxLen:=by simpa using h63
    obtain⟨v',w',G',e1,e2,e3,e4⟩:=qpg (ty:=T) hA ht hu (.inr ⟨_,rfl⟩) hT (t:=s.st.length) (n:=0) (xs:=[]) Sx rfl rfl k1 k2 (λi a b h1 h2=>(k3 i a b h1 h2).mono hle) hz63 (some ⟨blk,f,none⟩) 0 []
     (run_firstCells_some w.drew sz 0 ⟨blk,f,none⟩ 0 0 [] Sx Sx) Om Sx (by simp[flat]) Sx (by simp[flat]) (by rw[Qs,nextslicecap_zero Om];have:=hby;simp at this;omega) hm0
    refine⟨v',w',G',_,_,?_,hle.trans e2,e3,e4,h _ _ s.st.length (.inl (.inr ⟨s.st.length,rfl,?_,hb⟩)) ⟨Sx,λk hk hlt=>?_⟩ hb (.inr (Qc _))⟩
    .generalize a.eval=ρ at e1 hv
     simp[execOp,resolve,invoke,builtin,hv,e1]
    .simp
    .rw[Qh (Ne.symm hk),Qb hlt]
end
theorem qd0{α:Type}{g:α->AV}{l:List α}(h:∀a,jl (g a).cells=true):jl (flat (l.map g))=true:=by
 induction l with
 |nil=>rfl
 |cons a r ih=>
  have h1:=h a
  unfold jl flat at *
  rw[Qp,Qq,List.all_append,h1,ih]
  rfl
theorem qys{b:Nat}{st:List AObj}{sz:Nat}{T:TypeId}{xs:List AV}{c:AV}(h:TipO b st sz T xs c):∀G v,Rel G c v->Rel G (.sl sz xs none) v:=by
 rcases h with(⟨rfl,rfl⟩|⟨t,rfl,_⟩)|⟨rfl,o,v,f,rfl⟩
 .exactλG v h=>qal h
 .exactλG v h=>qif h
 .exactλG v h=>zdy h
end Go.Av
namespace Go.Av
open Go Go.RowKit
inductive SrcA (st:List AObj) (sz:Nat):AV->Nat->Nat->List AV->Prop
 |sl (ys:List AV) (tip:Option Nat) (hone:jl (flat ys)=true):SrcA st sz (.sl sz ys tip) ys.length ys.length (flat ys)
 |os (o ver off L cap m:Nat) (T:TypeId) (cs:List AV) (ho:st[o]?=some (.cells ver T cs)) (hfit:off+m*sz<=cs.length) (hone:jl ((cs.drop off).take (m*sz))=true):SrcA st sz (.os o ver off L cap) L m ((cs.drop off).take (m*sz))
structure SrcP (P:Program) (w:World) (x:Value) (L m size:Nat) (news:List Value):Prop where
 len:∀w',(Builtin.lenOf x).run P w'=.ok L w'
 cells:∀w',Below w.heap.size w w'->(Builtin.firstCells size m x).run P w'=.ok news.toArray w'
 count:news.length=m*size
 one:∀u∈news,u.oneCell'=true
section
variable {B0 : Nat} {w0 : World} {G : Gh} {st : List AObj} {w : World}
theorem qm0{P:Program}(hA:q9 B0 w0 G st w){sz L m:Nat}{a:AV}{zs:List AV}{x:Value}(h:SrcA st sz a L m zs)(hr:Rel G a x):
  ∃news,SrcP P w x L m sz news∧zs.length=m*sz∧∀(i:Nat)(a:AV)(b:Value),zs[i]?=some a->news[i]?=some b->Rel G a b:=by
 cases h with
 |sl ys tip hone=>
  obtain⟨news,h1,h2,h3⟩:=xm (P:=P) hA hr (by simpa[jl]using hone)
  exact⟨news,⟨h1.len,h1.cells,h1.count,h1.one⟩,zk h2,h3⟩
 |os o ver off _ cap _ T cs ho hfit hone=>
  obtain⟨g0,g1,g2,g3,c,g4,g5,g6⟩:=hA.ob o _ ho
  cases hr with
  |os _ _ _ _ b _ hn hv hb=>
   have hb:=hb g1
   subst hb
   have hget:∀(j:Nat)(y:Value),((c.toList.drop off).take (m*sz))[j]?=some y->j<m*sz∧c[off+j]?=some y:=λj y hy=>by
    rw[Qm]at hy
    split at hy
    .rename_i hj
     rw[Qk]at hy
     exact⟨hj,by simpa using hy⟩
    .simp at hy
   have hnl:((c.toList.drop off).take (m*sz)).length=m*sz:=by
    simp
    omega
   refine⟨(c.toList.drop off).take (m*sz),⟨λw'=>by simp[Builtin.lenOf],λw' hw'=>?_,hnl,λu hu=>?_⟩,So,λi a b h1 h2=>?_⟩
   .refine run_firstCells_some w' sz m ⟨(G.ob o).blk,off,none⟩ L cap _ hnl λj y hy=>?_
    obtain⟨hj,hy⟩:=hget j y hy
    have hlt:(G.ob o).blk<w.heap.size:=by
     rcases Zk (G.ob o).blk w.heap.size with h'|h'
     .exact h'
     .simp[Zp h']at g4
    have e1:w'.heap[(G.ob o).blk]?=some (.cells c T (0,0)):=by rw[hw'.block _ hlt];exact g4
    rw[Addr.add_lit]
    simp[World.cell?,e1,hy]
   .obtain⟨j,hj⟩:=List.getElem?_of_mem hu
    obtain⟨h1,h2⟩:=hget j u hj
    have hlc:off+j<cs.length:=Om
    have hx:cs[off+j]?=some cs[off+j]:=Zb hlc
    have hz:((cs.drop off).take (m*sz))[j]?=some cs[off+j]:=by rw[Qt h1,Qk];exact hx
    exact(g6 _ _ u hx h2).one (Qz.1 hone _ (Zf hz))
   .obtain⟨h3,h4⟩:=hget i b h2
    rw[Qt h3,Qk]at h1
    exact g6 _ a b h1 h4
theorem qgp(hA:q9 B0 w0 G st w){o ver off:Nat}{T:TypeId}{cs zs:List AV}{news:List Value}{c:Array Value}(ho:st[o]?=some (.cells ver T cs))(g4:w.heap[(G.ob o).blk]?=some (.cells c T (0,0)))(hfit:off+zs.length<=cs.length)(hl:zs.length=news.length)
  (hr:∀(i:Nat)(a:AV)(b:Value),zs[i]?=some a->news[i]?=some b->Rel G a b):q9 B0 w0 G (st.set o (.cells ver T (zt cs off zs))) (w.setRow (G.ob o).blk (c.toList.take off++news++c.toList.drop (off+news.length)).toArray):=by
 obtain⟨_,_,_,_,c',h4,g5,g6⟩:=hA.ob o _ ho
 rw[g4]at h4
 simp only[Qx,Obj.cells.injEq,and_true]at h4
 subst h4
 refine hA.setRow ho (by simp[zt];omega) ?_
 have e1:∀(j:Nat)(a:AV)(b:Value),(cs.take off)[j]?=some a->(c.toList.take off)[j]?=some b->Rel G a b:=λj a b h1 h2=>by
  rw[Qm]at h1 h2
  split at h1
  .rename_i hj
   rw[if_pos hj]at h2
   exact g6 j a b h1 (by simpa using h2)
  .simp at h1
 have e2:=x2 (G:=G) (cs:=cs.take off) (ds:=zs) (vs:=c.toList.take off) (us:=news) So e1 hr
 have e3:=x2 (G:=G) (cs:=cs.take off++zs) (ds:=cs.drop (off+zs.length)) (vs:=c.toList.take off++news) (us:=c.toList.drop (off+news.length)) So e2 (λj a b h1 h2=>by
  rw[Qk]at h1 h2
  rw[hl]at h1
  exact g6 _ a b h1 (by simpa using h2))
 unfold zt
 intro j a b h1 h2
 exact e3 j a b h1 (by simpa using h2)
end
section
variable {E : Env} {rd : Option Nat} {N : Nat} {ops : Array Oper} {K : AS → Prop} {s : AS} {rest : List Oper} {d : Option Tmp} {T : TypeId} {p : String} {af : Array Edge}
theorem qks{x y:Operand}{t u T':TypeId}{sz bytes o ver n cap m:Nat}{cs zs:List AV}{a:AV}(hx:qg N s x=.os o ver 0 n cap)(hy:qg N s y=a)(ho:s.st[o]?=some (.cells ver T' cs))(hsrc:SrcA s.st sz a m m zs)
  (ht:E.P.underlying t=some (.slice T')) (hu:E.P.underlying u=some (.slice T')) (hT:wm E.P T' sz bytes) (hroom:n+m<=cap) (hcs:cs.length=cap*sz)
  (h:AOps E rd N ops rest K (AS.put ⟨s.t,s.st.set o (.cells ver T' (zt cs (n*sz) zs)),s.df⟩ d (.os o ver 0 (n+m) cap))):AOps E rd N ops (⟨d,.call ⟨.builtin .append,#[x,y],#[t,u]⟩,T,p,af,none⟩::rest) K s:=by
 refine qw rfl (qu nofun λB0 w0 G a0 w _ hI=>?_)
 obtain⟨i,z,hi,hz,rfl,rfl,hzs⟩:=hT.ex
 obtain⟨news,h1,h2,h3⟩:=qm0 (P:=E.P) hI.agree hsrc (hI.eval_of hy)
 have hv:=hI.eval_of hx
 generalize hv':a0.eval x=v at hv
 obtain⟨g0,g1,g2,g3,c,g4,g5,g6⟩:=hI.agree.ob o _ ho
 have hmul:n*i.size+m*i.size<=cap*i.size:=by rw[<-Qw];exact Qg _ hroom
 cases hv with
 |os _ _ _ _ b _ hn hv hb=>
  have hb:=hb g1
  subst hb
  have hrun:=qhg (ty:=T) ht hu (.inr ⟨_,rfl⟩) hi ⟨h1.len,h1.cells,h1.count,h1.one⟩ (G.ob o).blk n cap c g4 hroom (by rw[h1.count];omega)
  refine⟨_,_,G,_,_,?_,.refl G,qgp hI.agree ho g4 Om (by rw[h1.count];exact h2) h3,.os o ver 0 (n+m) _ cap hn hv (λ_=>rfl),h⟩
  generalize a0.eval=ρ at hrun hv'⊢
  simp[execOp,resolve,invoke,builtin,hv',hrun]
theorem yl{x y:Operand}{t u T':TypeId}{sz bytes o ver off dl dc L m:Nat}{cs zs:List AV}{a:AV}(hx:qg N s x=.os o ver off dl dc)(hy:qg N s y=a)(ho:s.st[o]?=some (.cells ver T' cs))(hsrc:SrcA s.st sz a L m zs)(hm:Nat.min L dl=m)
  (ht:E.P.underlying t=some (.slice T')) (hT:wm E.P T' sz bytes) (hfit:off+m*sz<=cs.length)
  (h:AOps E rd N ops rest K (AS.put ⟨s.t,s.st.set o (.cells ver T' (zt cs off zs)),s.df⟩ d (Iv (m:Nat)))):AOps E rd N ops (⟨d,.call ⟨.builtin .copy,#[x,y],#[t,u]⟩,T,p,af,none⟩::rest) K s:=by
 refine qw rfl (qu nofun λB0 w0 G a0 w _ hI=>?_)
 obtain⟨i,z,hi,hz,rfl,rfl,hzs⟩:=hT.ex
 obtain⟨news,h1,h2,h3⟩:=qm0 (P:=E.P) hI.agree hsrc (hI.eval_of hy)
 have hv:=hI.eval_of hx
 generalize hv':a0.eval x=v at hv
 obtain⟨g0,g1,g2,g3,c,g4,g5,g6⟩:=hI.agree.ob o _ ho
 cases hv with
 |os _ _ _ _ b _ hn hv hb=>
  have hb:=hb g1
  subst hb
  have hst:=run_storeCells_at E.P (G.ob o).blk off T' news 0 c w g4 (by rw[h1.count];omega) h1.one
  simp only[Zz]at hst
  have hcl:=h1.cells w (Below.refl _ _)
  refine⟨_,_,G,_,_,?_,.refl G,qgp hI.agree ho g4 Om (by rw[h1.count];exact h2) h3,.v _,h⟩
  have hl:=h1.len w
  generalize a0.eval=ρ at hv' hst hcl hl⊢
  simp[execOp,resolve,invoke,builtin,hv',Builtin.copy_,run_underlying ht,sizeOf,typeInfo,hi,hl,hm,hcl,hst,goInt]
def q2q(P:Program)(T:TypeId):Bool:=
 match P.info? T with
 |some i=>(match i.zero with
  |some z=>z.cells.toList.all Value.oneCell'
  |none=>false)
 |none=>false
theorem qwd{x:Operand}{t T':TypeId}{sz bytes o ver off n cap:Nat}{cs:List AV}(hx:qg N s x=.os o ver off n cap)(ho:s.st[o]?=some (.cells ver T' cs))
  (ht:E.P.underlying t=some (.slice T')) (hT:wm E.P T' sz bytes) (hz1:q2q E.P T'=true) (hfit:off+n*sz<=cs.length)
  (h:∀zs:List AV,zs.length=n*sz->AOps E rd N ops rest K (AS.put ⟨s.t,s.st.set o (.cells ver T' (zt cs off zs)),s.df⟩ d (.v undef))):AOps E rd N ops (⟨d,.call ⟨.builtin .clear,#[x],#[t]⟩,T,p,af,none⟩::rest) K s:=by
 refine qw rfl (qu nofun λB0 w0 G a0 w _ hI=>?_)
 obtain⟨i,z,hi,hz,rfl,rfl,hzs⟩:=hT.ex
 have hv:=hI.eval_of hx
 generalize hv':a0.eval x=v at hv
 obtain⟨g0,g1,g2,g3,c,g4,g5,g6⟩:=hI.agree.ob o _ ho
 cases hv with
 |os _ _ _ _ b _ hn hv hb=>
  have hb:=hb g1
  subst hb
  by_cases h0:n=0
  .subst h0
   have hself:s.st.set o (.cells ver T' (zt cs off []))=s.st:=by
    have e:zt cs off []=cs:=by simp[zt]
    rw[e]
    apply Qy
    intro k
    by_cases e:o=k
    .subst e;rw[Zc (lt_of_getElem? ho)];exact ho.symm
    .rw[Qh e]
   have hh:=h [] Sx
   refine⟨_,_,G,_,_,?_,.refl G,hI.agree,.v _,by rw[hself]at hh;exact hh⟩
   generalize a0.eval=ρ at hv'⊢
   simp[execOp,resolve,invoke,builtin,hv',Builtin.clear_,run_underlying ht,undef]
  .have hzl:(Builtin.zeroCells z.cells n).toList.length=n*i.size:=by simp[size_zeroCells,hzs]
   have hz1:∀u∈(Builtin.zeroCells z.cells n).toList,u.oneCell'=true:=λu hu=>by
    unfold q2q at hz1
    rw[hi]at hz1
    simp only[hz]at hz1
    refine Qz.1 hz1 u ?_
    simp only[Builtin.zeroCells,Array.toList_map,Xa,Array.toList_range,Zt]at hu
    obtain⟨q,hq,rfl⟩:=hu
    have hp:q%z.cells.size<z.cells.size:=Nat.mod_lt _ (by
     rcases Nat.eq_zero_or_pos z.cells.size with h|h
     .rw[h]at hq;omega
     .exact h)
    rw[getElem!_pos z.cells _ hp]
    simp
   have hst:=run_storeCells_at E.P (G.ob o).blk off T' (Builtin.zeroCells z.cells n).toList 0 c w g4 (by rw[hzl];omega) hz1
   simp only[Zz]at hst
   have hh:=h ((Builtin.zeroCells z.cells n).toList.map AV.v) (by simpa using hzl)
   refine⟨_,_,G,_,_,?_,.refl G,qgp (news:=(Builtin.zeroCells z.cells n).toList) hI.agree ho g4 (by rw[Ql,hzl];exact hfit) Sx (λj a b h1 h2=>?_),.v _,hh⟩
   .generalize a0.eval=ρ at hv' hst⊢
    obtain⟨n',rfl⟩:∃n',n=n'+1:=⟨n-1,Om⟩
    simp[execOp,resolve,invoke,builtin,hv',Builtin.clear_,run_underlying ht,zeroValue,typeInfo,hi,hz,hst,undef]
   .rw[Qr,h2]at h1
    simp at h1
    subst h1
    exact .v _
theorem qro{P:Program}{t e:TypeId}{sz:Nat}{agg:Bool}(hu:P.underlying t=some (.slice e))(ht:tyOf P e=some (sz,agg))(a:Option Addr)(len cap:Nat)(lo hi mx:Option Value)(i j m:Nat)(w:World)
  (hlo:match lo with|none=>i=0|some v=>∃k,v=.int k (i:Int)) (hhi:match hi with|none=>j=len∧mx=none|some v=>∃k,v=.int k (j:Int)) (hmx:match mx with|none=>m=cap|some v=>∃k,v=.int k (m:Int)) (h1:i<=j) (h2:j<=m) (h3:m<=cap):
  (Instr.slice t (.slice a len cap) lo hi mx).run P w=.ok (.slice (if m=i then a else a.map (·.add (i*sz))) (j-i) (m-i)) w:=by
 have hs:=(kr ht w).1
 cases lo with
 |none=>
  simp only at hlo
  subst hlo
  cases hi with
  |none=>
   obtain⟨rfl,rfl⟩:=hhi
   simp only at hmx
   subst hmx
   simp[Instr.slice,run_underlying hu,Instr.sliceBounds,hs]
  |some v=>
   obtain⟨k,rfl⟩:=hhi
   cases mx with
   |none=>
    simp only at hmx
    subst hmx
    simp[Instr.slice,run_underlying hu,Instr.sliceBounds,Instr.sliceBound,asIntOf,hs,h2]
   |some u=>
    obtain⟨k',rfl⟩:=hmx
    simp[Instr.slice,run_underlying hu,Instr.sliceBounds,Instr.sliceBound,asIntOf,hs,h2,h3]
 |some u=>
  obtain⟨k',rfl⟩:=hlo
  cases hi with
  |none=>
   obtain⟨rfl,rfl⟩:=hhi
   simp only at hmx
   subst hmx
   simp[Instr.slice,run_underlying hu,Instr.sliceBounds,Instr.sliceBound,asIntOf,hs,h1]
  |some v=>
   obtain⟨k,rfl⟩:=hhi
   cases mx with
   |none=>
    simp only at hmx
    subst hmx
    simp[Instr.slice,run_underlying hu,Instr.sliceBounds,Instr.sliceBound,asIntOf,hs,h1,h2]
   |some u=>
    obtain⟨k'',rfl⟩:=hmx
    simp[Instr.slice,run_underlying hu,Instr.sliceBounds,Instr.sliceBound,asIntOf,hs,h1,h2,h3]
theorem zv{x:Operand}{t e:TypeId}{lo hi mx:Option Operand}{sz:Nat}{agg:Bool}{o ver off len cap i j m:Nat}(hx:qg N s x=.os o ver off len cap)(hu:E.P.underlying t=some (.slice e))(ht:tyOf E.P e=some (sz,agg))
  (hlo:match lo with|none=>i=0|some y=>∃k,qg N s y=.v (.int k (i:Int))) (hhi:match hi with|none=>j=len∧mx=none|some y=>∃k,qg N s y=.v (.int k (j:Int))) (hmx:match mx with|none=>m=cap|some y=>∃k,qg N s y=.v (.int k (m:Int))) (h1:i<=j) (h2:j<=m) (h3:m<=cap)
  (h:AOps E rd N ops rest K (s.put d (.os o ver (if m=i then off else off+i*sz) (j-i) (m-i)))):AOps E rd N ops (⟨d,.slice t x lo hi mx,T,p,af,none⟩::rest) K s:=by
 refine qw rfl (qu nofun λB0 w0 G a w _ hI=>?_)
 have he:=hI.eval_of hx
 generalize hv:a.eval x=v at he
 cases he with
 |os _ _ _ _ b _ hn hvr hb=>
  have hrun:=qro hu ht (some ⟨b,off,none⟩) len cap (lo.map a.eval) (hi.map a.eval) (mx.map a.eval) i j m w (by
   cases lo with
   |none=>exact hlo
   |some y=>obtain⟨k,hy⟩:=hlo;exact⟨k,hI.evalv hy⟩) (by
   cases hi with
   |none=>obtain⟨q1,q2⟩:=hhi;subst q2;exact⟨q1,rfl⟩
   |some y=>obtain⟨k,hy⟩:=hhi;exact⟨k,hI.evalv hy⟩) (by
   cases mx with
   |none=>exact hmx
   |some y=>obtain⟨k,hy⟩:=hmx;exact⟨k,hI.evalv hy⟩) h1 h2 h3
  refine⟨.slice (if m=i then some ⟨b,off,none⟩else(some ⟨b,off,none⟩:Option Addr).map (·.add (i*sz))) (j-i) (m-i),w,G,_,s.st,?_,.refl G,hI.agree,?_,h⟩
  .generalize a.eval=ρ at hv hrun⊢
   simp only[execOp,hv]
   simp[Instr.sliceAt,run_underlying hu,hrun]
  .have hadd:Addr.add ⟨b,off,none⟩ (i*sz)=⟨b,off+i*sz,none⟩:=Addr.add_lit ..
   by_cases hmi:m=i
   .rw[if_pos hmi,if_pos hmi]
    exact .os o ver off (j-i) b (m-i) hn hvr hb
   .rw[if_neg hmi,if_neg hmi,Xh,hadd]
    exact .os o ver (off+i*sz) (j-i) b (m-i) hn hvr hb
theorem qa2{x y:Operand}{t u T':TypeId}{sz bytes:Nat}{ys:List AV}(hx:∀(G:Gh)(v:Value),Rel G (qg N s x) v->∃base,v=.slice base 0 0)(hy:∀(G:Gh)(v:Value),Rel G (qg N s y) v->Rel G (.sl sz ys none) v)
  (ht:E.P.underlying t=some (.slice T')) (hu:E.P.underlying u=some (.slice T')) (hT:wm E.P T' sz bytes) (hone:jl (flat ys)=true) (h0:ys≠[]) (h63:ys.length<=maxLen) (hb:ys.length*bytes<=140737488355328)
  (h:∀cap pad,(flat ys++pad).length=(cap+1)*sz->(∀y∈ys,y.cells.length=sz)->ys.length<=cap+1->cap+1<=maxLen->AOps E rd N ops rest K (AS.put ⟨s.t,s.st++[.cells 0 T' (flat ys++pad)],s.df⟩ d (.os s.st.length 0 0 ys.length (cap+1)))):AOps E rd N ops (⟨d,.call ⟨.builtin .append,#[x,y],#[t,u]⟩,T,p,af,none⟩::rest) K s:=by
 refine qw rfl (qu nofun λB0 w0 G a0 w _ hI=>?_)
 obtain⟨i,z,hi,hz,rfl,rfl,hzs⟩:=hT.ex
 obtain⟨news,h1,h2,h3⟩:=xm (P:=E.P) hI.agree (hy _ _ (hI.eval y)) (by simpa[jl]using hone)
 obtain⟨base,hv⟩:=hx _ _ (hI.eval x)
 have hlen:0<ys.length:=Qv.2 h0
 have hold:(Builtin.firstCells i.size 0 (.slice base 0 0)).run E.P w.drew=.ok ([]:List Value).toArray w.drew:=by
  cases base with
  |none=>simp[run_firstCells_none]
  |some a=>exact run_firstCells_some w.drew i.size 0 a 0 0 [] Sx Sx
 have hrun:=qcc (ty:=T) ht hu (.inr ⟨_,rfl⟩) hi hz h1 base 0 0 [] hold Om (by simp only[maxLen]at h63;omega) (by simp only[Qs];rw[nextslicecap_zero Om];omega)
 simp only[Qs]at hrun
 have hge:=grownCap_ge w ys.length 0 T'
 have hle:=grownCap_le_maxLen w ys.length 0 T' h63
 generalize grownCap w ys.length 0 T'=cap at hrun hge hle
 obtain⟨cap,rfl⟩:∃c,cap=c+1:=⟨cap-1,Om⟩
 generalize hzc:Builtin.zeroCells z.cells (cap+1-ys.length)=zc at hrun
 have hzl:zc.size=(cap+1-ys.length)*i.size:=by rw[<-hzc,size_zeroCells,hzs]
 have hfy:(flat ys).length=ys.length*i.size:=zk h2
 have hdrew:Below w.heap.size w w.drew:=⟨rfl,rfl,rfl,Qc _,λ_ _=>rfl⟩
 have hr:=x2 (G:=G) (cs:=flat ys) (ds:=zc.toList.map AV.v) (vs:=news) (us:=zc.toList) (by rw[hfy,h1.count]) h3 (λj a b h1 h2=>by
  rw[Qr,h2]at h1
  simp at h1
  subst h1
  exact .v _)
 have hA:=(hI.agree.fresh hdrew).newCells T' (([]:List Value).toArray++news.toArray++zc) (flat ys++zc.toList.map AV.v) (by simp[hfy,h1.count]) (λj a b q1 q2=>hr j a b q1 (by rw[<-q2];simp[<-Ze]))
 have hn:=hI.agree.n
 refine⟨_,_,_,_,_,?_,G.le_new _ _ _ _,hA,.os _ _ _ _ _ _ (by simp[Gh.new,hn]) (Zq _) (λ_=>by simp[Gh.new,hn];rfl),h cap (zc.toList.map AV.v) ?_ h2 hge hle⟩
 .generalize a0.eval=ρ at hrun hv⊢
  simp[execOp,resolve,invoke,builtin,hv,hrun]
 .have h1:zc.toList.length=(cap+1-ys.length)*i.size:=by rw[<-hzl];simp
  rw[Qa,hfy,Ql,h1,<-Qw]
  congr 1
  omega
theorem qfm{x y:Operand}{t u T':TypeId}{sz bytes o:Nat}{xs ys:List AV}{a:AV}{ob:AObj}(hx:qg N s x=a)(hy:∀(G:Gh)(v:Value),Rel G (qg N s y) v->Rel G (.sl sz ys none) v)(hV:Vec sz T' o xs a ob)(ho:s.st[o]?=some ob)
  (ht:E.P.underlying t=some (.slice T')) (hu:E.P.underlying u=some (.slice T')) (hT:wm E.P T' sz bytes) (hone:jl (flat ys)=true) (h63:xs.length+ys.length<=maxLen) (hb:(xs.length+ys.length)*bytes<=140737488355328)
  (h:∀a' ob',Vec sz T' o (xs++ys) a' ob'->AOps E rd N ops rest K (AS.put ⟨s.t,s.st.set o ob',s.df⟩ d a')):AOps E rd N ops (⟨d,.call ⟨.builtin .append,#[x,y],#[t,u]⟩,T,p,af,none⟩::rest) K s:=by
 refine qw rfl (qu nofun λB0 w0 G a0 w _ hI=>?_)
 obtain⟨news,h1,h2,h3⟩:=xm (P:=E.P) hI.agree (hy _ _ (hI.eval y)) (by simpa[jl]using hone)
 obtain⟨v',w',G',a',ob',e1,e2,e3,e4,e5⟩:=qfl (ty:=T) hI.agree ht hu (.inr ⟨_,rfl⟩) hT hV ho (hI.eval_of hx) h1 h2 h3 h63 hb
 refine⟨v',w',G',_,_,?_,e2,e3,e4,h a' ob' e5⟩
 generalize a0.eval=ρ at e1
 simp[execOp,resolve,invoke,builtin,e1]
theorem qk1{x y:Operand}{t u T':TypeId}{sz bytes:Nat}{c:AV}(hx:qg N s x=c)(hc:∀G v,Rel G c v->∃b n cp,v=.slice b n cp∧n<=cp)(hy:∀(G:Gh)(v:Value),Rel G (qg N s y) v->Rel G (.sl sz [] none) v)
  (ht:E.P.underlying t=some (.slice T')) (hu:E.P.underlying u=some (.slice T')) (hT:wm E.P T' sz bytes) (h:AOps E rd N ops rest K (s.put d c)):AOps E rd N ops (⟨d,.call ⟨.builtin .append,#[x,y],#[t,u]⟩,T,p,af,none⟩::rest) K s:=by
 refine qw rfl (qu nofun λB0 w0 G a0 w _ hI=>?_)
 obtain⟨i,z,hi,hz,rfl,rfl,hzs⟩:=hT.ex
 obtain⟨news,h1,h2,h3⟩:=xm (P:=E.P) hI.agree (hy _ _ (hI.eval y)) (by simp[flat])
 have hn0:news=[]:=Qf (by simpa using h1.count)
 subst hn0
 have hv:=hI.eval_of hx
 obtain⟨b,n,cp,hv2,hle⟩:=hc _ _ hv
 have hrun:=qa0 (ty:=T) ht hu (.inr ⟨_,rfl⟩) hi h1 b n cp hle
 refine⟨_,w,G,c,s.st,?_,.refl G,hI.agree,hv,h⟩
 rw[hv2]
 generalize a0.eval=ρ at hrun hv2
 simp[execOp,resolve,invoke,builtin,hv2,hrun]
end
end Go.Av
