/- Contracts and plain facts that the closing text leans on (part 4). No condition of their own beyond those that each states. -/
import Derived.Test.YtneejjefekdgjaaGreatDoorK3
set_option maxRecDepth 100000
set_option linter.unusedVariables false
set_option linter.unusedSimpArgs false
namespace Go.Av
open Go Go.RowKit
section
variable {B0 : Nat} {w0 : World} {G : Gh} {st : List AObj} {w : World}
theorem zk.pubOb (h:zk B0 w0 G st w) {o ver:Nat} {T:TypeId} {cs:List AV} (ho:st[o]? = some (.cells ver T cs)) :
  ∃ vs:List Value,G.le (G.publish (G.ob o).blk vs)∧zk B0 w0 (G.publish (G.ob o).blk vs) (st.set o .dead) w∧(G.ob o).ver=ver∧(G.publish (G.ob o).blk vs).pub (G.ob o).blk=some vs∧cs.length=vs.length ∧
   ∀ (i:Nat) (x:AV) (y:Value),cs[i]? = some x→vs[i]? = some y→Rel (G.publish (G.ob o).blk vs) x y:=by
 obtain⟨h0,h1,h2,h3,c,h4,h5,h6⟩:=h.ob o _ ho
 have hle:G.le (G.publish (G.ob o).blk c.toList):=G.le_publish _ _ [] [] (.inl h3)
 refine⟨c.toList,hle,?_,h1,by simp [Gh.publish],by simpa using h5,fun i x y hx hy=>(h6 i x y hx (by simpa using hy)).mono hle⟩
 have key:∀ (k:Nat) (x:AObj),(st.set o .dead)[k]? = some x→x = .dead∨(k≠o∧st[k]? = some x):=fun k x hx=>by
  rcases getElem?_set' _ _ _ _ _ hx with⟨_,e⟩|e
  ·exact .inl e
  ·exact .inr e
 refine⟨h.below,h.hB,by simp [h.n,Gh.publish],fun b vs hb=>?_,fun k x hx=>?_,fun k k' x x' hne hx hx' hl hl'=>?_⟩
 ·simp only [Gh.publish] at hb
  by_cases e:b=(G.ob o).blk
  ·rw [if_pos e] at hb
   cases hb
   subst e
   exact⟨c,T,(0,0),h4,fun i y hy=>by simpa using hy⟩
  ·rw [if_neg e] at hb
   exact h.pub b vs hb
 ·rcases key k x hx with rfl | ⟨hk,hx⟩
  ·trivial
  ·refine (h.ob k x hx).mono hle rfl (fun hl=>?_) (fun _=>rfl)
   have:=h.sep k o x _ hk hx ho hl trivial
   simp [Gh.publish,this]
 ·rcases key k x hx with rfl | ⟨hk,hx⟩
  ·exact hl.elim
  ·rcases key k' x' hx' with rfl | ⟨hk',hx'⟩
   ·exact hl'.elim
   ·exact h.sep k k' x x' hne hx hx' hl hl'
end
section
variable {E : Env} {rd : Option Nat} {N : Nat} {ops : Array Oper} {K : AS → Prop} {s : AS} {rest : List Oper} {d : Option Tmp} {T : TypeId} {p : String} {af : Array Edge}
theorem Inv.pub {B0:Nat} {w0:World} {G:Gh} {a:Act} {w:World} (h:Inv B0 w0 N G s a w) {i o ver:Nat} {T':TypeId} {cs:List AV} (hi:s.t i = .bx o ver 0) (ho:s.st[o]? = some (.cells ver T' cs)) :
  ∃ G',G.le G'∧Inv B0 w0 N G' ⟨Av.put s.t i (.pp cs),s.st.set o .dead,s.df⟩ a w:=by
 obtain⟨vs,hle,hA,hv,hp,hl,hr⟩:=h.agree.pubOb ho
 refine⟨_,hle,hA,h.defers_mono hle,h.size,fun j y hy=>?_⟩
 have hj:=h.tmps j y hy
 by_cases e:j=i
 ·subst e
  simp only [xv]
  rw [hi] at hj
  cases hj with
  |bx _ _ _ b hn hv' hb=>
   have hb:=hb hv
   subst hb
   exact .pp cs _ 0 vs hp (by omega) fun k x y hx hy=>hr k x y hx (by simpa using hy)
 ·simp only
  rw [qaw _ _ _ _ e]
  exact hj.mono hle
theorem qfs {x y:Operand} {t:TypeId} {sz:Nat} {agg:Bool} {st loc loc' ext new:List AObj} {k ver off:Nat} {T':TypeId} {cs xs:List AV} {r:AV} (hs:s.st=((st++loc)++ext)++new) (hx:qj N s x = .bx (st.length+k) ver off) (hy:qj N s y=r) (ho:loc[k]? = some (.cells ver T' cs)) (ht:tyOf E.P t=some (sz,agg))
  (hok:r.okc=true) (hc:r.cells=xs) (hsz:Nat.beq xs.length sz=true) (h1:ke xs=true) (hfit:Nat.ble (off+sz) cs.length=true) (hl:loc'=loc.set k (.cells ver T' (j9 cs off xs)))
  (h:AOps E rd N ops rest K (AS.put ⟨s.t,((st++loc')++ext)++new,s.df⟩ d (.v undef))):AOps E rd N ops (⟨d,.store t x y,T,p,af,none⟩::rest) K s:=by
 have hk:=lt_of_getElem? ho
 exact xj hx hy (by rw [hs];exact qap ho) ht hok hc hsz h1 hfit (by rw [hs,qdu _ hk,← hl];exact h)
end
theorem qdb {α : Type} (l:List α) (a : α):(l++[a]).length=l.length+1:=by simp
theorem qeq {α : Type} (l:List α) (a : α):Iv ((l.length:Int)+1)=Iv ((l++[a]).length:Nat):=by rw [qdb];rfl
theorem q9x {α : Type} {sz:Nat} {tip:Option Nat} (x0:AV) (g : α→AV) (pre:List α) (a : α) (v:AV) (h:v=g a):AV.sl sz ((x0::pre.map g)++[v]) tip=AV.sl sz (x0::(pre++[a]).map g) tip:=by rw [List.map_append,h];rfl
theorem qzi {E:Env} {rd:Option Nat} {N:Nat} {ops:Array Oper} {K:AS→Prop} {s:AS} {rest:List Oper} {d:Option Tmp} {T:TypeId} {p:String} {af:Array Edge} {t:TypeId} {st loc:List AObj} {cs:List AV} {n:Nat} (hst:s.st=st++loc) (hn:st.length=n) (hz:qfo E.P t=some cs)
  (h:AOps E rd N ops rest K (AS.put ⟨s.t,st++(loc++[.cells 0 t cs]),s.df⟩ d (.bx (n+loc.length) 0 0))):AOps E rd N ops (⟨d,.alloc t,T,p,af,none⟩::rest) K s:=by
 subst hn
 exact kc hst hz h
theorem qqb {E:Env} {rd:Option Nat} {N:Nat} {ops:Array Oper} {K:AS→Prop} {s:AS} {rest:List Oper} {d:Option Tmp} {T:TypeId} {p:String} {af:Array Edge} {x y:Operand} {t:TypeId} {sz:Nat} {agg:Bool} {st loc ext new:List AObj} {k ver off:Nat} {T':TypeId} {cs xs:List AV} {r:AV} (hs:s.st=((st++loc)++ext)++new) (hx:qj N s x = .bx (st.length+k) ver off) (hy:qj N s y=r) (ho:loc[k]? = some (.cells ver T' cs)) (ht:tyOf E.P t=some (sz,agg))
  (hok:r.okc=true) (hc:r.cells=xs) (hsz:xs.length=sz) (h1:ke xs=true) (hfit:off+sz≤cs.length)
  (h:AOps E rd N ops rest K (AS.put ⟨s.t,((st++loc.set k (.cells ver T' (j9 cs off xs)))++ext)++new,s.df⟩ d (.v undef))):AOps E rd N ops (⟨d,.store t x y,T,p,af,none⟩::rest) K s:=by
 have hk:=lt_of_getElem? ho
 exact qg6 hx hy (by rw [hs];exact qap ho) ht hok hc hsz (by simpa [ke] using h1) hfit (by rw [hs,qdu _ hk];exact h)
theorem qa7 {E:Env} {rd:Option Nat} {N:Nat} {c:Code} {Q:Exit→AS→Prop} {s:AS} {α : Type} (xs:List α) (I:List α→AS→Prop) (h0:I [] s) (hend:∀ s,I xs s→AWp E rd N c (qvs (fun _=>False) Q) s)
  (hstep:∀ pre a rest s,xs=pre++a::rest→I pre s→AWp E rd N c (qvs (fun s'=>I (pre++[a]) s') Q) s):AWp E rd N (.loop c) Q s:=by
 refine jh (fun (x:List α×List α) s=>xs=x.1++x.2∧I x.1 s) (fun x=>x.2.length) ([],xs) ⟨rfl,h0⟩ ?_
 rintro⟨pre,rest⟩ s ⟨hx,hi⟩
 cases rest with
 |nil=>
  simp only [List.append_nil] at hx
  subst hx
  refine (hend s hi).mono fun e s' h=>?_
  cases e with
  |normal=>exact h.elim
  | _=>exact h
 |cons a rest=>
  refine (hstep pre a rest s hx hi).mono fun e s' h=>?_
  cases e with
  |normal=>exact⟨(pre++[a],rest),⟨by rw [hx];simp,h⟩,by simp⟩
  | _=>exact h
theorem qu3 {E:Env} {fn:Func} {R:AV→List AObj→Prop} {s:AS} {st loc ext new:List AObj} {k:Nat} {ds:List Nat} (hs:s.st=((st++loc)++ext)++new) (hd:s.df=(st.length+k)::ds) (ho:loc[k]? = some .dfr) (h:ARet E fn R ⟨s.t,((st++loc.set k .dead)++ext)++new,ds⟩):ARet E fn R s:=
 qmb hd (by rw [hs];exact qap ho) (by rw [hs,qdu _ (lt_of_getElem? ho)];exact h)
@[reducible] def q6u (F : LoopState → Option Code → AObj) (st : List AObj) (own : AObj) (I : List AObj → Prop) (D : Code → List AObj → Prop) : Exit → AS → Prop
 | .normal,s=>∃ l ext new,s.st=((st++(l++[.dfr,F .busy none,own]))++ext)++new∧I l
 | .ret,s=>∃ l ext new,s.st=((st++(l++[.dfr,F .busy none,own]))++ext)++new∧D .ret l
 | .exit id,s=>∃ l ext new,s.st=((st++(l++[.dfr,F .busy none,own]))++ext)++new∧D (.exit id) l
 | _,_=>False
theorem qzo {E:Env} {o:Nat} {xs:List AV} {st st':List AObj} {R:Bool→List AObj→Prop} (e:st=st') (h:qab E o xs st R):qab E o xs st' R:=e▸h
theorem qc4 {st l ext:List AObj} {a b c:AObj} {n:Nat} (hl:l.length=n):(((st++(l++[a,b,c]))++ext))[st.length+(n+1)]? = some b:=by
 subst hl
 rw [List.append_assoc,List.append_assoc,List.getElem?_append_right (by omega),Nat.add_sub_cancel_left,List.getElem?_append_right (by omega)]
 simp
theorem qe0 {st l ext:List AObj} {a b c y:AObj} {n:Nat} (hl:l.length=n):((st++(l++[a,b,c]))++ext).set (st.length+(n+1)) y=(st++(l++[a,y,c]))++ext:=by
 subst hl
 rw [List.append_assoc,List.append_assoc,List.set_append_right _ _ (by omega),Nat.add_sub_cancel_left,List.set_append_right _ _ (by omega)]
 simp
theorem q72 {E:Env} {N:Nat} {t:Nat→AV} {ps:Array Tmp} {asg body:Code} {st l ext:List AObj} {own:AObj} {n:Nat} {xs:List AV} {F:LoopState→Option Code→AObj} {I:List AObj→Prop} {D:Code→List AObj→Prop} (hF:qki F N t ps asg body) (hl:l.length=n) (hps:ps.size=xs.length)
  (hI:∀ l,I l→l.length=n) (hD:∀ c l,D c l→l.length=n)
  (h:∀ rd,AWp E (some rd) N asg (only fun s1=>∃ new,s1.st=((st++(l++[.dfr,F .ready none,own]))++ext)++new∧s1.df=[]∧AWp E (some rd) N body (q6u F st own I D) ⟨s1.t,((st++(l++[.dfr,F .busy none,own]))++ext)++new,[]⟩) ⟨qja t (ps.toList.zip xs),((st++(l++[.dfr,F .ready none,own]))++ext)++[],[]⟩) :
  qab E (st.length+(n+1)) xs ((st++(l++[.dfr,F .ready none,own]))++ext) fun b st2=>∃ l' ext',(b=true→st2=(st++(l'++[.dfr,F .ready none,own]))++ext'∧I l')∧(b=false→∃ c,st2=(st++(l'++[.dfr,F .done (some c),own]))++ext'∧D c l'):=by
 refine qo4 hF (qc4 hl) hps fun rd=>?_
 have h:=h rd
 rw [List.append_nil] at h
 refine h.mono fun e s1 hq=>?_
 cases e with
 |normal=>
  obtain⟨new,h1,h2,h3⟩:=hq
  refine⟨by rw [h1,List.append_assoc];exact qc4 hl,h2,?_⟩
  have e:s1.st.set (st.length+(n+1)) (F .busy none)=((st++(l++[.dfr,F .busy none,own]))++ext)++new:=by
   rw [h1,List.append_assoc,qe0 hl,List.append_assoc _ ext]
  rw [e]
  refine h3.mono fun e s2 hq2=>?_
  cases e with
  |normal=>
   obtain⟨l',ext',new',k1,k2⟩:=hq2
   exact⟨by rw [k1,List.append_assoc];exact qc4 (hI _ k2),l',ext'++new',fun _=>⟨by rw [k1,List.append_assoc,qe0 (hI _ k2)],k2⟩,nofun⟩
  |ret=>
   obtain⟨l',ext',new',k1,k2⟩:=hq2
   exact⟨by rw [k1,List.append_assoc];exact qc4 (hD _ _ k2),l',ext'++new',nofun,fun _=>⟨_,by rw [k1,List.append_assoc,qe0 (hD _ _ k2)],k2⟩⟩
  |exit id=>
   obtain⟨l',ext',new',k1,k2⟩:=hq2
   exact⟨by rw [k1,List.append_assoc];exact qc4 (hD _ _ k2),l',ext'++new',nofun,fun _=>⟨_,by rw [k1,List.append_assoc,qe0 (hD _ _ k2)],k2⟩⟩
  | _=>exact hq2.elim
 | _=>exact hq.elim
end Go.Av
namespace Go.Pl
open Go Go.Proofs
abbrev Fld:=qa×qa
def qbn (s:qa):Prop:=∀ c∈s,vv c
instance (s:qa):Decidable (qbn s):=inferInstanceAs (Decidable (∀ c∈s,vv c))
def vi (s:qa):qa:=if qbn s∨s.head? = some 46 then 46::s else s
def jy (key p:qa):qa:=key++[58]++if p=[] then [] else [32]++p
def zj (f:Fld):List qa:=jy f.1 ((q5 f.2).headD [])::(q5 f.2).tail.map fun s=>[32]++vi s
def zn (ls:List qa):qa:=ls.flatMap fun s=>s++[10]
def jt (xs:List Fld):qa:=xs.flatMap fun f=>zn (zj f)
def ko (f:Fld):Int:=if ¬ yq f.1 then 5 else if 1000<f.2.length then 6 else 0
def ju (f:Fld):Prop:=yq f.1∧f.2.length≤1000
instance (f:Fld):Decidable (ju f):=inferInstanceAs (Decidable (_∧_))
theorem qcn (f:Fld):ko f=0↔ju f:=by
 unfold ko ju
 by_cases h:yq f.1
 ·by_cases h2:1000<f.2.length
  ·simp [h,h2]
  ·simp [h,h2];omega
 ·simp [h]
def v6 (c:UInt8) (l:qa):qa:=if l.head? = some c then l.drop 1 else l
theorem qs7 (c:UInt8) (l:qa):Lib.trimPrefix l [c]=v6 c l:=by
 unfold Lib.trimPrefix v6
 rw [qlz]
 simp
def qay (l:qa) (r:List qa):qa:=v6 32 (kf l)++r.flatMap fun s=>[10]++v6 46 (s.drop 1)
def qp0 (ls:List qa):Prop:=ls≠[]∧qy (ls.headD [])=4∧∀ s∈ls.tail,qy s=3
instance (ls:List qa):Decidable (qp0 ls):=inferInstanceAs (Decidable (_∧_∧_))
def zp (ls:List qa):Fld×Int:=
 if qp0 ls then
  if 1000<(qay (ls.headD []) ls.tail).length then (([],[]),6) else ((z2 (ls.headD []),qay (ls.headD []) ls.tail),0)
 else (([],[]),2)
theorem qfh (l:qa):q5 l≠[]:=by
 by_cases h:10∈l
 ·rw [x6 h];simp
 ·rw [x7 h];simp
theorem qld (l:qa):q5 l=(q5 l).headD []::(q5 l).tail:=by
 cases h:q5 l with
 |nil=>exact absurd h (qfh l)
 |cons a r=>rfl
theorem qhi:∀ (n:Nat) (l:qa),l.length≤n→(q5 l).headD []++(q5 l).tail.flatMap (fun s=>[10]++s)=l
 |n,l,hn=>by
  by_cases h:10∈l
  ·rw [x6 h]
   have hne:l≠[]:=fun e=>by subst e;simp at h
   have hlt:=wi (c:=10) hne
   cases n with
   |zero=>omega
   |succ n=>
    have ih:=qhi n (past 10 l) (by omega)
    simp only [List.headD_cons,List.tail_cons]
    rw [qld (past 10 l)]
    simp only [List.flatMap_cons]
    rw [List.append_assoc,ih]
    have:=vk h
    simp [← this]
  ·rw [x7 h];simp
theorem qdp (l:qa):∀ x∈q5 l,10∉x:=fun x hx=>(qgx l.length l (Nat.le_refl _) x hx).2
theorem qd6 (l:qa):∀ x∈q5 l,x.length≤l.length:=fun x hx=>(qgx l.length l (Nat.le_refl _) x hx).1
theorem qpe (l:qa):(q5 l).headD []∈q5 l:=by
 have h:=qfh l
 cases e:q5 l with
 |nil=>exact absurd e h
 |cons a r=>simp
theorem q0q (s:qa):v6 46 (vi s)=s:=by
 unfold vi v6
 by_cases h:qbn s∨s.head? = some 46
 ·rw [if_pos h];simp
 ·rw [if_neg h,if_neg (fun h'=>h (.inr h'))]
theorem qs0 (s:qa):¬ qbn (vi s):=by
 unfold vi
 by_cases h:qbn s∨s.head? = some 46
 ·rw [if_pos h]
  intro h'
  have:=h' 46 (by simp)
  revert this;decide
 ·rw [if_neg h]
  exact fun h'=>h (.inl h')
theorem qr1 {s:qa} (h:10∉s):10∉vi s:=by
 unfold vi
 split
 ·simp [h]
 ·exact h
theorem qus (s:qa):(vi s).length≤s.length+1:=by
 unfold vi
 split <;> simp
theorem qt8 (s:qa) (h:10∉s):qy ([32]++vi s)=3:=by
 have hn:=qr1 h
 have hb:=qs0 s
 unfold qy
 have h10:10∉([32]++vi s):=by simp [hn]
 rw [if_neg h10,if_neg (fun h'=>hb fun c hc=>h' c (by simp [hc])),if_neg (by simp),if_pos ⟨32,by simp,.inl rfl⟩]
theorem qjj {k r:qa} (h:58∉k):z2 (k++[58]++r)=k:=by
 unfold z2
 induction k with
 |nil=>simp
 |cons a k ih=>
  simp only [List.mem_cons,not_or] at h
  have:(58:UInt8)≠a:=h.1
  simp only [List.cons_append,List.takeWhile_cons]
  rw [if_pos (by simpa using fun e=>this e.symm)]
  rw [ih h.2]
theorem qy2 {k r:qa} (h:58∉k):kf (k++[58]++r)=r:=by
 unfold kf
 rw [qjj h]
 rw [List.drop_append_of_le_length (by simp)]
 simp
theorem qi3 {k:qa} (h:yq k):∃ c,k.head? = some c∧¬ vv c∧c≠35:=by
 obtain⟨h1,h2,h3,h4,h5,h6⟩:=h
 cases k with
 |nil=>exact absurd rfl h1
 |cons a r=>exact⟨a,rfl,fun hb=>h3 ⟨a,rfl,hb⟩,fun e=>h4 (by simp [e])⟩
theorem qt7 {k p:qa} (h:yq k) (hp:10∉p):qy (jy k p)=4:=by
 obtain⟨c,hc,hb,h35⟩:=qi3 h
 have hk10:10∉k:=h.2.2.2.2.2
 have hk58:58∉k:=h.2.2.2.2.1
 have hh:(jy k p).head? = some c:=by
  unfold jy
  cases k with
  |nil=>simp at hc
  |cons a r=>simpa using hc
 have e:jy k p=k++[58]++(if p=[] then [] else [32]++p):=rfl
 have h10:10∉jy k p:=by
  rw [e]
  split <;> simp [hk10,hp]
 have hmem:c∈jy k p:=List.mem_of_head? hh
 unfold qy
 rw [if_neg h10,if_neg (fun h'=>hb (h' c hmem)),if_neg (by rw [hh];simpa using h35),if_neg (fun ⟨d,hd,hd'⟩=>by rw [hh] at hd;cases hd;exact hb hd')]
 rw [if_pos]
 refine⟨by rw [e];simp,?_⟩
 rw [e,qjj hk58]
 exact h
theorem q5v (k p:qa) (h:58∉k):v6 32 (kf (jy k p))=p:=by
 unfold jy
 rw [qy2 h]
 by_cases hp:p=[]
 ·rw [if_pos hp];simp [v6,hp]
 ·rw [if_neg hp];simp [v6]
theorem ql0 {f:Fld} (h:ju f):zp (zj f)=(f,0):=by
 obtain⟨hk,hv⟩:=h
 have hk58:58∉f.1:=hk.2.2.2.2.1
 have h10:=qdp f.2
 have hval:qay (jy f.1 ((q5 f.2).headD [])) ((q5 f.2).tail.map fun s=>[32]++vi s)=f.2:=by
  unfold qay
  rw [q5v _ _ hk58]
  have:((q5 f.2).tail.map fun s=>[32]++vi s).flatMap (fun s=>[10]++v6 46 (s.drop 1))=(q5 f.2).tail.flatMap (fun s=>[10]++s):=by
   rw [List.flatMap_map]
   congr 1
   funext s
   simp [q0q]
  rw [this,qhi _ _ (Nat.le_refl _)]
 unfold zp zj
 rw [if_pos]
 ·simp only [List.headD_cons,List.tail_cons]
  refine (if_neg (by rw [hval];omega)).trans ?_
  have:z2 (jy f.1 ((q5 f.2).headD []))=f.1:=qjj hk58
  rw [this,hval]
 ·refine⟨by simp,?_,?_⟩
  ·simp only [List.headD_cons]
   exact qt7 hk (h10 _ (qpe _))
  ·intro s hs
   simp only [List.tail_cons,List.mem_map] at hs
   obtain⟨x,hx,rfl⟩:=hs
   exact qt8 x (h10 x (List.mem_of_mem_tail hx))
end Go.Pl
namespace Go.Av
open Go Go.RowKit
section
variable {E : Env} {rd : Option Nat} {N : Nat} {ops : Array Oper} {K : AS → Prop} {s : AS} {rest : List Oper} {d : Option Tmp} {T : TypeId} {p : String} {af : Array Edge}
theorem qas {t e:TypeId} {len sz:Nat} {agg:Bool} {parts:Array (Nat×Operand)} {zs cs:List AV} {st loc:List AObj} (hst:s.st=st++loc) (hu:E.P.underlying t=some (.slice e)) (ht:tyOf E.P e=some (sz,agg)) (hz:qfp E.P e len=some zs)
  (hf:qbr (fun i=>some (i * sz,sz)) zs (vb N s parts)=some cs) (hsz:Nat.ble (len * sz) 16777216=true)
  (h:AOps E rd N ops rest K (AS.put ⟨s.t,st++(loc++[.cells 0 e cs]),s.df⟩ d (.os (st.length+loc.length) 0 0 len len))):AOps E rd N ops (⟨d,.buildSlice t len parts,T,p,af,none⟩::rest) K s:=by
 refine zf rfl (ze nofun fun B0 w0 G a w _ hI=>?_)
 obtain⟨c',hrun,h2⟩:=qjt (d:=d) (T:=T) (p:=p) (af:=af) hI hu ht hz hf hsz
 have hA:=hI.agree.newCells e c' cs h2.1 h2.2
 have hn:=hI.agree.n
 rw [hst] at hA hn
 simp only [List.append_assoc,List.length_append] at hA hn
 exact⟨_,_,_,_,_,hrun,G.le_new _ _ _ _,hA,.os _ _ _ _ _ _ (by simp [Gh.new,hn]) (Nat.zero_le _) (fun _=>by simp [Gh.new,hn]),h⟩
theorem zk.ownTip {B0:Nat} {w0:World} {G:Gh} {st:List AObj} {w:World} (h:zk B0 w0 G st w) {o sz len cap:Nat} {T:TypeId} {cs:List AV} {xs:List AV} (ho:st[o]? = some (.cells 0 T cs)) (hc:cs.length=cap * sz) (hlen:xs.length=len) (h0:0<len) (hle:len≤cap) (hcm:cap≤maxLen) (hw:∀ x∈xs,x.cells.length=sz) (hfl:flat xs=cs.take (len * sz)) :
  ∃ G',G.le G'∧zk B0 w0 G' (st.set o (.tip len sz T)) w∧Rel G' (.sl sz xs (some o)) (.slice (some ⟨(G.ob o).blk,0,none⟩) len cap):=by
 subst hlen
 have hon:=lt_of_getElem? ho
 obtain⟨g0,g1,g2,g3,c,g4,g5,g6⟩:=h.ob o _ ho
 have hle1:G.le (G.publish (G.ob o).blk (c.toList.take (xs.length * sz))):=G.le_publish _ _ [] [] (.inl g3)
 -- dead, published
 have key:∀ (k:Nat) (x:AObj),(st.set o .dead)[k]? = some x→x = .dead∨(k≠o∧st[k]? = some x):=fun k x hx=>by
  rcases getElem?_set' _ _ _ _ _ hx with⟨_,e⟩|e
  ·exact .inl e
  ·exact .inr e
 have hA1:zk B0 w0 (G.publish (G.ob o).blk (c.toList.take (xs.length * sz))) (st.set o .dead) w:=by
  refine⟨h.below,h.hB,by simp [h.n,Gh.publish],fun b vs hb=>?_,fun k x hx=>?_,fun k k' x x' hne hx hx' hl hl'=>?_⟩
  ·simp only [Gh.publish] at hb
   by_cases e:b=(G.ob o).blk
   ·rw [if_pos e] at hb
    cases hb
    subst e
    refine⟨c,T,(0,0),g4,fun i y hy=>?_⟩
    rw [List.getElem?_take] at hy
    split at hy
    ·simpa using hy
    ·simp at hy
   ·rw [if_neg e] at hb
    exact h.pub b vs hb
  ·rcases key k x hx with rfl | ⟨hk,hx⟩
   ·trivial
   ·refine (h.ob k x hx).mono hle1 rfl (fun hl=>?_) (fun _=>rfl)
    have:=h.sep k o x _ hk hx ho hl trivial
    simp [Gh.publish,this]
  ·rcases key k x hx with rfl | ⟨hk,hx⟩
   ·exact hl.elim
   ·rcases key k' x' hx' with rfl | ⟨hk',hx'⟩
    ·exact hl'.elim
    ·exact h.sep k k' x x' hne hx hx' hl hl'
 have hvl:(c.toList.take (xs.length * sz)).length=xs.length * sz:=by
  have:xs.length * sz≤cap * sz:=Nat.mul_le_mul_right _ hle
  simp
  omega
 obtain⟨hle2,hA2⟩:=hA1.setTip (t:=o) (n:=0) (n':=xs.length) (k:=(G.ob o).blk) (cap:=c.size) (sz:=sz) (T:=T) (c:=c) (vs:=c.toList.take (xs.length * sz)) (by simp [hon]) g0 g1 h0 g4 (by simp [Gh.publish]) hvl rfl g2 (fun k x hx hl=>by
  rcases key k x hx with rfl | ⟨hk,hx⟩
  ·exact hl.elim
  ·exact h.sep k o x _ hk hx ho hl trivial)
 rw [List.set_set] at hA2
 refine⟨_,hle1.trans hle2,hA2,?_⟩
 have hgn:o<G.n:=by rw [h.n];exact hon
 refine .sl sz xs (some o) (G.ob o).blk 0 cap (c.toList.take (xs.length * sz)) (by simp [Gh.setOb,Gh.publish]) hw (by rw [hfl,hvl];simp;omega) (fun i x y h1 h2=>?_) (fun t ht=>?_) (by omega)
 ·rw [hfl] at h1
  rw [Nat.zero_add] at h2
  rw [List.getElem?_take] at h1 h2
  split at h1
  ·rename_i hi
   rw [if_pos hi] at h2
   exact ((g6 i x y h1 (by simpa using h2)).mono hle1).mono hle2
  ·simp at h1
 ·simp only [Option.some.injEq] at ht
  subst ht
  refine⟨by simpa [Gh.setOb,Gh.publish] using hgn,by omega,by simp [Gh.setOb],fun _=>⟨by simp [Gh.setOb],rfl,by simp [Gh.setOb,← g5,hc],hcm,by omega⟩⟩
theorem Inv.osTip {B0:Nat} {w0:World} {G:Gh} {a:Act} {w:World} (h:Inv B0 w0 N G s a w) {i o sz len cap:Nat} {T':TypeId} {cs xs:List AV} (hi:s.t i = .os o 0 0 len cap) (ho:s.st[o]? = some (.cells 0 T' cs)) (hc:cs.length=cap * sz) (hlen:xs.length=len) (h0:0<len) (hle:len≤cap) (hcm:cap≤maxLen) (hw:∀ x∈xs,x.cells.length=sz) (hfl:flat xs=cs.take (len * sz)) :
  ∃ G',G.le G'∧Inv B0 w0 N G' ⟨Av.put s.t i (.sl sz xs (some o)),s.st.set o (.tip len sz T'),s.df⟩ a w:=by
 obtain⟨G',hG,hA,hR⟩:=h.agree.ownTip ho hc hlen h0 hle hcm hw hfl
 obtain⟨_,g1,_⟩:=h.agree.ob o _ ho
 refine⟨G',hG,hA,h.defers_mono hG,h.size,fun j y hy=>?_⟩
 have hj:=h.tmps j y hy
 by_cases e:j=i
 ·subst e
  simp only [xv]
  rw [hi] at hj
  cases hj with
  |os _ _ _ _ b _ hn hv hb=>
   have hb:=hb g1
   subst hb
   exact hR
 ·simp only
  rw [qaw _ _ _ _ e]
  exact hj.mono hG
theorem q4w {c:Code} {Q:Exit→AS→Prop} (i:Nat) {o sz len cap:Nat} {T':TypeId} {cs xs:List AV} (hi:s.t i = .os o 0 0 len cap) (ho:s.st[o]? = some (.cells 0 T' cs)) (hc:cs.length=cap * sz) (hlen:xs.length=len) (h0:0<len) (hle:len≤cap) (hcm:cap≤maxLen) (hw:∀ x∈xs,x.cells.length=sz) (hfl:flat xs=cs.take (len * sz))
  (h:AWp E rd N c Q ⟨Av.put s.t i (.sl sz xs (some o)),s.st.set o (.tip len sz T'),s.df⟩):AWp E rd N c Q s:=
 ⟨fun B0 w0 G a w hL hI=>let ⟨G1,h1,h2⟩:=hI.osTip hi ho hc hlen h0 hle hcm hw hfl;wpIn_mono (h.run B0 w0 _ a w hL h2) fun _ _ _ ⟨G',s',hG,k1,k2⟩=>⟨G',s',h1.trans hG,k1,k2⟩⟩
theorem q2f {l:List Oper} (i:Nat) {o sz len cap:Nat} {T':TypeId} {cs xs:List AV} (hi:s.t i = .os o 0 0 len cap) (ho:s.st[o]? = some (.cells 0 T' cs)) (hc:cs.length=cap * sz) (hlen:xs.length=len) (h0:0<len) (hle:len≤cap) (hcm:cap≤maxLen) (hw:∀ x∈xs,x.cells.length=sz) (hfl:flat xs=cs.take (len * sz))
  (h:AOps E rd N ops l K ⟨Av.put s.t i (.sl sz xs (some o)),s.st.set o (.tip len sz T'),s.df⟩):AOps E rd N ops l K s:=
 ⟨fun B0 w0 G a w hL hI Q hQ=>let ⟨G1,h1,h2⟩:=hI.osTip hi ho hc hlen h0 hle hcm hw hfl;h.run B0 w0 _ a w hL h2 Q fun G' s' a' w' hG k1 k2=>hQ G' s' a' w' (h1.trans hG) k1 k2⟩
theorem Inv.osPub {B0:Nat} {w0:World} {G:Gh} {a:Act} {w:World} (h:Inv B0 w0 N G s a w) {i o ver off sz len cap:Nat} {T':TypeId} {cs xs:List AV} (hi:s.t i = .os o ver off len cap) (ho:s.st[o]? = some (.cells ver T' cs)) (hlen:xs.length=len) (hle:len≤cap) (hw:∀ x∈xs,x.cells.length=sz) (hin:off+len * sz≤cs.length) (hfl:flat xs=(cs.drop off).take (len * sz)) :
  ∃ G',G.le G'∧Inv B0 w0 N G' ⟨Av.put s.t i (.sl sz xs none),s.st.set o .dead,s.df⟩ a w:=by
 obtain⟨vs,hle1,hA,hv,hp,hl,hr⟩:=h.agree.pubOb ho
 refine⟨_,hle1,hA,h.defers_mono hle1,h.size,fun j y hy=>?_⟩
 have hj:=h.tmps j y hy
 by_cases e:j=i
 ·subst e
  simp only [xv]
  rw [hi] at hj
  cases hj with
  |os _ _ _ _ b _ hn hv' hb=>
   have hb:=hb hv
   subst hb
   rw [← hlen]
   refine .sl sz xs none _ off cap vs hp hw (by rw [hfl];simp;omega) (fun k x y hx hy=>?_) (fun t ht=>by simp at ht) (by omega)
   rw [hfl,List.getElem?_take] at hx
   split at hx
   ·rw [List.getElem?_drop] at hx
    exact hr _ x y hx hy
   ·simp at hx
 ·simp only
  rw [qaw _ _ _ _ e]
  exact hj.mono hle1
theorem q4n {l:List Oper} (i:Nat) {x r:AV} (hi:s.t i=x) (hw:∀ G v,Rel G x v→Rel G r v) (h:AOps E rd N ops l K ⟨Av.put s.t i r,s.st,s.df⟩):AOps E rd N ops l K s:=
 ⟨fun B0 w0 G a w hL hI Q hQ=>h.run B0 w0 G a w hL ⟨hI.agree,hI.defers,hI.size,fun j y hy=>by
  have hj:=hI.tmps j y hy
  by_cases e:j=i
  ·subst e;simp only [xv];rw [hi] at hj;exact hw G y hj
  ·simp only;rw [qaw _ _ _ _ e];exact hj⟩ Q hQ⟩
theorem qrx {P:Program} {t e:TypeId} {sz:Nat} {agg:Bool} (hu:P.underlying t=some (.slice e)) (ht:tyOf P e=some (sz,agg)) (a:Option Addr) (len cap:Nat) (lo hi:Option Value) (i j:Nat) (w:World)
  (hlo:match lo with|none=>i=0|some v=>∃ k,v = .int k (i:Int)) (hhi:match hi with|none=>j=len|some v=>(∃ k,v = .int k (j:Int))∧j≤cap) (h1:i≤j) :
  (Instr.slice t (.slice a len cap) lo hi none).run P w = .ok (.slice (if cap=i then a else a.map (·.add (i * sz))) (j - i) (cap - i)) w:=by
 have hs:=(vj ht w).1
 cases lo with
 |none=>
  simp only at hlo
  subst hlo
  cases hi with
  |none=>
   simp only at hhi
   subst hhi
   simp [Instr.slice,run_underlying hu,Instr.sliceBounds,hs]
  |some v=>
   obtain⟨⟨k,rfl⟩,h2⟩:=hhi
   simp [Instr.slice,run_underlying hu,Instr.sliceBounds,Instr.sliceBound,asIntOf,hs,h2]
 |some u=>
  obtain⟨k',rfl⟩:=hlo
  cases hi with
  |none=>
   simp only at hhi
   subst hhi
   simp [Instr.slice,run_underlying hu,Instr.sliceBounds,Instr.sliceBound,asIntOf,hs,h1]
  |some v=>
   obtain⟨⟨k,rfl⟩,h2⟩:=hhi
   simp [Instr.slice,run_underlying hu,Instr.sliceBounds,Instr.sliceBound,asIntOf,hs,h1,h2]
theorem qrv {G:Gh} {sz:Nat} {xs:List AV} {tip:Option Nat} {a:Option Addr} {len cap:Nat} (h:Rel G (.sl sz xs tip) (.slice a len cap)) {i j:Nat} (h1:i≤j) (h2:j≤xs.length) :
  len=xs.length∧len≤cap∧Rel G (.sl sz ((xs.take j).drop i) none) (.slice (if cap=i then a else a.map (·.add (i * sz))) (j - i) (cap - i)):=by
 cases h with
 |sl0=>
  simp at h2
  subst h2
  have:i=0:=by omega
  subst this
  refine⟨rfl,Nat.zero_le _,?_⟩
  simp
  exact .sl0 sz none _ _ (by simp)
 |sl _ _ _ b off cap pub hp hw hlen hr ht hcap=>
  refine⟨rfl,hcap,?_⟩
  have hl:((xs.take j).drop i).length=j - i:=by simp;omega
  by_cases hji:j=i
  ·subst hji
   have e:(xs.take j).drop j=[]:=List.length_eq_zero_iff.1 (by rw [hl];omega)
   rw [e,Nat.sub_self]
   exact .sl0 sz none _ _ (by simp)
  ·have hne:cap≠i:=by omega
   rw [if_neg hne]
   simp only [Option.map_some]
   have hadd:Addr.add ⟨b,off,none⟩ (i * sz)=⟨b,off+i * sz,none⟩:=Addr.add_lit ..
   rw [hadd,← hl]
   have hw':∀ x∈(xs.take j).drop i,x.cells.length=sz:=fun x hx=>hw x (List.mem_of_mem_take (List.mem_of_mem_drop hx))
   have hfx:(flat xs).length=xs.length * sz:=z4 hw
   have hsplit:flat xs=flat (xs.take i)++flat ((xs.take j).drop i)++flat (xs.drop j):=by
    have e:xs.take i++(xs.take j).drop i=xs.take j:=by
     conv=>rhs;rw [← List.take_append_drop i (xs.take j),List.take_take,Nat.min_eq_left h1]
    rw [← x5,← x5,e,List.take_append_drop]
   have hti:(flat (xs.take i)).length=i * sz:=by
    rw [z4 (fun x hx=>hw x (List.mem_of_mem_take hx)),List.length_take,Nat.min_eq_left (by omega)]
   have hmid:(flat ((xs.take j).drop i)).length=(j - i) * sz:=by rw [z4 hw',hl]
   refine .sl sz _ none b (off+i * sz) (cap - i) pub hp hw' ?_ (fun k x y hx hy=>?_) (fun t ht=>by simp at ht) (by rw [hl];omega)
   ·have:=congrArg List.length hsplit
    simp only [List.length_append] at this
    omega
   ·refine hr (i * sz+k) x y ?_ (by rw [← hy];congr 1;omega)
    have hk:=lt_of_getElem? hx
    rw [hsplit,List.append_assoc,List.getElem?_append_right (by omega),hti,Nat.add_sub_cancel_left,List.getElem?_append_left hk]
    exact hx
theorem qzk {x:Operand} {t e:TypeId} {lo hi:Option Operand} {sz:Nat} {agg:Bool} {xs ys:List AV} {tip:Option Nat} {i j:Nat} (hx:qj N s x = .sl sz xs tip) (hu:E.P.underlying t=some (.slice e)) (ht:tyOf E.P e=some (sz,agg))
  (hlo:match lo with|none=>i=0|some y=>∃ k,qj N s y = .v (.int k (i:Int))) (hhi:match hi with|none=>j=xs.length|some y=>∃ k,qj N s y = .v (.int k (j:Int))) (h1:i≤j) (h2:j≤xs.length) (hy:(xs.take j).drop i=ys)
  (h:AOps E rd N ops rest K (s.put d (.sl sz ys none))):AOps E rd N ops (⟨d,.slice t x lo hi none,T,p,af,none⟩::rest) K s:=by
 subst hy
 refine zf rfl (ze nofun fun B0 w0 G a w _ hI=>?_)
 have he:=hI.eval_of hx
 generalize hv:a.eval x=v at he
 have hsl:∃ b len cap,v = .slice b len cap:=by cases he <;> exact⟨_,_,_,rfl⟩
 obtain⟨b,len,cap,rfl⟩:=hsl
 obtain⟨hl,hlc,hr⟩:=qrv he h1 h2
 refine⟨_,w,G,_,s.st,?_,.refl G,hI.agree,hr,h⟩
 have hrun:=qrx hu ht b len cap (lo.map a.eval) (hi.map a.eval) i j w (by
  cases lo with
  |none=>exact hlo
  |some y=>obtain⟨k,hy⟩:=hlo;exact⟨k,hI.evalv hy⟩) (by
  cases hi with
  |none=>simp only at hhi;simp only [Option.map_none];omega
  |some y=>obtain⟨k,hy⟩:=hhi;exact⟨⟨k,hI.evalv hy⟩,by omega⟩) h1
 generalize a.eval = ρ at hv hrun
 simp only [execOp,hv]
 simp [Instr.sliceAt,run_underlying hu,hrun]
theorem qjr {x y:Operand} {t e:TypeId} {sz:Nat} {agg:Bool} {xs ys:List AV} {tip:Option Nat} {k:IntKind} {i:Nat} (hx:qj N s x = .sl sz xs tip) (hy:qj N s y = .v (.int k (i:Int))) (hu:E.P.underlying t=some (.slice e)) (ht:tyOf E.P e=some (sz,agg)) (h1:i≤xs.length) (hz:xs.drop i=ys)
  (h:AOps E rd N ops rest K (s.put d (.sl sz ys none))):AOps E rd N ops (⟨d,.slice t x (some y) none none,T,p,af,none⟩::rest) K s:=
 qzk (i:=i) (j:=xs.length) hx hu ht ⟨k,hy⟩ rfl h1 (Nat.le_refl _) (by rw [List.take_length];exact hz) h
end
end Go.Av
namespace Go.Av
open Go Go.RowKit
inductive Vec (sz:Nat) (T:TypeId) (o:Nat) (xs:List AV):AV→AObj→Prop
 |nil (h:xs=[]):Vec sz T o xs zu (.tip 0 sz T)
 |os (ver cap:Nat) (pad:List AV) (hl:(flat xs++pad).length=cap * sz) (hw:∀ x∈xs,x.cells.length=sz) (hle:xs.length≤cap) (hcm:cap≤maxLen):Vec sz T o xs (.os o ver 0 xs.length cap) (.cells ver T (flat xs++pad))
section
variable {B0 : Nat} {w0 : World} {G : Gh} {st : List AObj} {w : World}
theorem zk.setCells (h:zk B0 w0 G st w) {t k cap v':Nat} {T:TypeId} {cs:List AV} (ht:st[t]? = some .dead) (hraw:(G.ob t).raw=false) (hver:(G.ob t).ver<v')
  {c:Array Value} (hc:w.heap[k]? = some (.cells c T (0,0))) (hp:G.pub k=none) (hl:cs.length=c.size) (hr:∀ (i:Nat) (x:AV) (y:Value),cs[i]? = some x→c[i]? = some y→Rel G x y) (hk:B0≤k) (hs:∀ o x,st[o]? = some x→x.live→(G.ob o).blk≠k) :
  G.le (G.setOb t ⟨v',k,cap,false⟩)∧zk B0 w0 (G.setOb t ⟨v',k,cap,false⟩) (st.set t (.cells v' T cs)) w:=by
 have hle:=G.le_setOb t ⟨v',k,cap,false⟩ hver hraw
 have hob:∀ o,o≠t→(G.setOb t ⟨v',k,cap,false⟩).ob o=G.ob o:=fun o ho=>by simp [Gh.setOb,ho]
 have hobt:(G.setOb t ⟨v',k,cap,false⟩).ob t=⟨v',k,cap,false⟩:=by simp [Gh.setOb]
 refine⟨hle,h.below,h.hB,by simp [h.n,Gh.setOb],h.pub,fun o x hx=>?_,fun o o' x x' hne hx hx' hl1 hl2=>?_⟩
 ·rcases getElem?_set' _ _ _ _ _ hx with⟨rfl,rfl⟩ | ⟨ho,hx⟩
  ·exact⟨by rw [hobt],by rw [hobt],by rw [hobt];exact hk,by rw [hobt];exact hp,c,by rw [hobt];exact hc,hl,fun i x y h1 h2=>(hr i x y h1 h2).mono hle⟩
  ·exact (h.ob o x hx).mono hle (hob o ho) (fun _=>rfl) (fun _=>rfl)
 ·rcases getElem?_set' _ _ _ _ _ hx with⟨e1,e2⟩ | ⟨ho,hx⟩
  ·rcases getElem?_set' _ _ _ _ _ hx' with⟨e3,_⟩ | ⟨ho',hx'⟩
   ·exact absurd (e1.trans e3.symm) hne
   ·rw [e1,hobt,hob o' ho']
    exact (hs o' x' hx' hl2).symm
  ·rcases getElem?_set' _ _ _ _ _ hx' with⟨e3,_⟩ | ⟨ho',hx'⟩
   ·rw [e3,hobt,hob o ho]
    exact hs o x hx hl1
   ·rw [hob o ho,hob o' ho']
    exact h.sep o o' x x' hne hx hx' hl1 hl2
theorem qd1 {G:Gh} {cs ds:List AV} {vs us:List Value} (hl:cs.length=vs.length) (h1:∀ (i:Nat) (x:AV) (y:Value),cs[i]? = some x→vs[i]? = some y→Rel G x y) (h2:∀ (i:Nat) (x:AV) (y:Value),ds[i]? = some x→us[i]? = some y→Rel G x y) :
  ∀ (i:Nat) (x:AV) (y:Value),(cs++ds)[i]? = some x→(vs++us)[i]? = some y→Rel G x y:=fun i x y hx hy=>by
 by_cases hi:i<cs.length
 ·rw [List.getElem?_append_left hi] at hx
  rw [List.getElem?_append_left (by omega)] at hy
  exact h1 i x y hx hy
 ·rw [List.getElem?_append_right (by omega)] at hx
  rw [List.getElem?_append_right (by omega),← hl] at hy
  exact h2 _ x y hx hy
theorem qlu {P:Program} (hA:zk B0 w0 G st w) {tt u ty T:TypeId} {du:TypeDesc} (htt:P.underlying tt=some (.slice T)) (hu:P.underlying u=some du) (hd:qhs du)
  {sz bytes:Nat} (hT:qad P T sz bytes) {o:Nat} {xs ys:List AV} {a:AV} {ob:AObj} {v x:Value} (hV:Vec sz T o xs a ob) (ho:st[o]? = some ob) (hv:Rel G a v)
  {news:List Value} (hx:Src P w x ys.length sz news) (hys:∀ y∈ys,y.cells.length=sz) (hrel:∀ (i:Nat) (a:AV) (b:Value),(flat ys)[i]? = some a→news[i]? = some b→Rel G a b)
  (h63:xs.length+ys.length≤maxLen) (hbytes:(xs.length+ys.length) * bytes≤140737488355328) :
  ∃ v' w' G' a' ob',(Builtin.append_ #[tt,u] ty #[v,x]).run P w = .ok v' w'∧G.le G'∧zk B0 w0 G' (st.set o ob') w'∧Rel G' a' v'∧Vec sz T o (xs++ys) a' ob':=by
 obtain⟨i,z,hi,hz,rfl,rfl,hzs⟩:=hT.ex
 have hon:=lt_of_getElem? ho
 have htn:o<G.n:=by rw [hA.n];exact hon
 have hraw:(G.ob o).raw=false:=by
  have:=hA.ob o _ ho
  cases hV with
  |nil h=>exact this.1
  |os=>exact this.1
 have hk:=hA.kill o
 have hkt:(st.set o .dead)[o]? = some .dead:=qbw ho
 have hother:∀ k x,(st.set o .dead)[k]? = some x→x.live→k≠o∧st[k]? = some x:=fun k x hx hl=>by
  rcases getElem?_set' _ _ _ _ _ hx with⟨_,e⟩ | ⟨h1,h2⟩
  ·subst e;exact hl.elim
  ·exact⟨h1,h2⟩
 have hself:st.set o ob=st:=by
  apply List.ext_getElem?
  intro k
  by_cases e:o=k
  ·subst e;rw [List.getElem?_set_self hon];exact ho.symm
  ·rw [List.getElem?_set_ne e]
 have hfy:(flat ys).length=ys.length * i.size:=z4 hys
 have grow:∀ (base:Option Addr) (c:Nat) (olds:List Value),(Builtin.firstCells i.size xs.length (.slice base xs.length c)).run P w.drew = .ok olds.toArray w.drew→c<xs.length+ys.length→olds.length=xs.length * i.size→(∀ x∈xs,x.cells.length=i.size) →
   (∀ (j:Nat) (a:AV) (b:Value),(flat xs)[j]? = some a→olds[j]? = some b→Rel G a b)→Builtin.nextslicecap (xs.length+ys.length) c * i.bytes≤281474976710656 →
   ∃ v' w' G' a' ob',(Builtin.append_ #[tt,u] ty #[.slice base xs.length c,x]).run P w = .ok v' w'∧G.le G'∧zk B0 w0 G' (st.set o ob') w'∧Rel G' a' v'∧Vec i.size T o (xs++ys) a' ob':=by
  intro base c olds hold hc hol hwx hrx hfit
  have hfx:(flat xs).length=xs.length * i.size:=z4 hwx
  have hrun:=qfk (ty:=ty) htt hu hd hi hz hx base xs.length c olds hold hc (by simp only [maxLen] at h63;omega) hfit
  have hge:=grownCap_ge w (xs.length+ys.length) c T
  have hle:=grownCap_le_maxLen w (xs.length+ys.length) c T h63
  generalize grownCap w (xs.length+ys.length) c T=cap at hrun hge hle
  generalize hzc:(Builtin.zeroCells z.cells (cap - (xs.length+ys.length)))=zc at hrun
  have hzl:zc.size=(cap - (xs.length+ys.length)) * i.size:=by rw [← hzc,size_zeroCells,hzs]
  have hdrew:Below w.heap.size w w.drew:=⟨rfl,rfl,rfl,Nat.le_refl _,fun _ _=>rfl⟩
  have hcl:(flat (xs++ys)++zc.toList.map AV.v).length=(olds.toArray++news.toArray++zc).size:=by
   rw [x5]
   simp [hfx,hfy,hol,hx.count]
   omega
  have hA1:=(hk.fresh hdrew).fresh (w':=w.drew.alloc (.cells (olds.toArray++news.toArray++zc) T)) ⟨rfl,rfl,rfl,by simp [World.alloc],fun b hb=>ym _ _ _ hb⟩
  have hnp:G.pub w.heap.size=none:=by
   cases hp:G.pub w.heap.size with
   |none=>rfl
   |some vs=>exact absurd (hA.pub_lt hp) (Nat.lt_irrefl _)
  obtain⟨hle2,hA2⟩:=hA1.setCells (t:=o) (k:=w.heap.size) (cap:=0) (v':=(G.ob o).ver+1) (T:=T) (cs:=flat (xs++ys)++zc.toList.map AV.v) hkt hraw (Nat.lt_succ_self _) (yl w.drew _) hnp hcl (by
   have h1:=qd1 (G:=G) (cs:=flat xs) (ds:=flat ys) (vs:=olds) (us:=news) (by omega) hrx hrel
   have h2:=qd1 (G:=G) (cs:=flat xs++flat ys) (ds:=zc.toList.map AV.v) (vs:=olds++news) (us:=zc.toList) (by simp [hfx,hfy,hol,hx.count]) h1 (fun j a b h1 h2=>by
    rw [List.getElem?_map,h2] at h1
    simp at h1
    subst h1
    exact .v _)
   rw [x5]
   intro j a b g1 g2
   exact h2 j a b g1 (by rw [← g2];simp [← Array.getElem?_toList])) hA.hB (fun k x hx hl=>by
   obtain⟨_,hx'⟩:=hother k x hx hl
   exact Nat.ne_of_lt ((hA.ob k x hx').lt hl))
  rw [List.set_set] at hA2
  refine⟨_,_,_,_,_,hrun,hle2,hA2,.os o ((G.ob o).ver+1) 0 (xs.length+ys.length) w.heap.size cap (by simpa [Gh.setOb] using htn) (by simp [Gh.setOb]) (fun _=>by simp [Gh.setOb]),?_⟩
  have:=Vec.os (o:=o) (T:=T) (xs:=xs++ys) ((G.ob o).ver+1) cap (zc.toList.map AV.v) (sz:=i.size) (by
   have h1:zc.toList.length=(cap - (xs.length+ys.length)) * i.size:=by rw [← hzl];simp
   rw [List.length_append,x5,List.length_append,hfx,hfy,List.length_map,h1,← Nat.add_mul,← Nat.add_mul]
   congr 1
   omega) (fun y hy=>by
   rcases List.mem_append.1 hy with h|h
   ·exact hwx y h
   ·exact hys y h) (by simpa using hge) hle
  rw [List.length_append] at this
  exact this
 cases hV with
 |nil h=>
  subst h
  cases hv with
  |v _=>
  by_cases hm0:ys.length=0
  ·have hy0:ys=[]:=List.eq_nil_of_length_eq_zero hm0
   subst hy0
   have hn0:news=[]:=List.eq_nil_of_length_eq_zero (by simpa using hx.count)
   subst hn0
   exact⟨_,_,G,_,_,qb3 htt hu hd hi hx none 0 0 (Nat.le_refl _),.refl G,by rw [hself];exact hA,.v _,.nil (by simp)⟩
  ·exact grow none 0 [] (by simp [run_firstCells_none]) (by simp;omega) (by simp) (by simp) (by simp [flat]) (by
    simp only [List.length_nil,Nat.zero_add] at hbytes ⊢
    rw [nextslicecap_zero (by omega)]
    omega)
 |os ver cap pad hl hw hle hcm=>
  obtain⟨g0,g1,g2,g3,c,g4,g5,g6⟩:=hA.ob o _ ho
  have hfx:(flat xs).length=xs.length * i.size:=z4 hw
  cases hv with
  |os _ _ _ _ b _ hn hv' hb=>
  have hb:=hb g1
  subst hb
  have hcs:c.size=cap * i.size:=by rw [← g5,hl]
  by_cases hm0:ys.length=0
  ·have hy0:ys=[]:=List.eq_nil_of_length_eq_zero hm0
   subst hy0
   have hn0:news=[]:=List.eq_nil_of_length_eq_zero (by simpa using hx.count)
   subst hn0
   exact⟨_,_,G,_,_,qb3 htt hu hd hi hx _ xs.length cap hle,.refl G,by rw [hself];exact hA,.os _ _ _ _ _ _ hn hv' (fun _=>rfl),by rw [List.append_nil];exact .os ver cap pad hl hw hle hcm⟩
  ·by_cases hroom:xs.length+ys.length≤cap
   ·have hmul:(xs.length+ys.length) * i.size≤cap * i.size:=Nat.mul_le_mul_right _ hroom
    rw [Nat.add_mul] at hmul
    have hfit:xs.length * i.size+news.length≤c.size:=by rw [hx.count,hcs];omega
    have hrun:=qm7 (ty:=ty) htt hu hd hi hx (G.ob o).blk xs.length cap c g4 hroom hfit
    have hpl:pad.length=cap * i.size - xs.length * i.size:=by
     have:=hl
     rw [List.length_append,hfx] at this
     omega
    have hA2:=hA.setRow (cs':=flat (xs++ys)++pad.drop (ys.length * i.size)) (c':=(c.toList.take (xs.length * i.size)++news++c.toList.drop (xs.length * i.size+news.length)).toArray) ho (by
     rw [x5]
     simp [hfx,hfy,hx.count,hpl,hcs,Nat.min_eq_left hle]
     omega) (by
     have e1:∀ (j:Nat) (a:AV) (b:Value),(flat xs)[j]? = some a→(c.toList.take (xs.length * i.size))[j]? = some b→Rel G a b:=fun j a b h1 h2=>by
      have hj:=lt_of_getElem? h1
      rw [List.getElem?_take_of_lt (by omega)] at h2
      exact g6 j a b (by rw [List.getElem?_append_left hj];exact h1) (by simpa using h2)
     have e2:=qd1 (G:=G) (cs:=flat xs) (ds:=flat ys) (vs:=c.toList.take (xs.length * i.size)) (us:=news) (by simp;omega) e1 hrel
     have e3:=qd1 (G:=G) (cs:=flat xs++flat ys) (ds:=pad.drop (ys.length * i.size)) (vs:=c.toList.take (xs.length * i.size)++news) (us:=c.toList.drop (xs.length * i.size+news.length)) (by
      simp [hfx,hfy,hx.count]
      omega) e2 (fun j a b h1 h2=>by
      rw [List.getElem?_drop] at h1 h2
      refine g6 (xs.length * i.size+news.length+j) a b ?_ (by simpa using h2)
      rw [List.getElem?_append_right (by rw [hfx];omega),hfx,← h1,hx.count]
      congr 1
      omega)
     rw [x5]
     intro j a b h1 h2
     exact e3 j a b h1 (by simpa using h2))
    refine⟨_,_,G,_,_,hrun,.refl G,hA2,.os o ver 0 (xs.length+ys.length) _ cap hn hv' (fun _=>rfl),?_⟩
    have:=Vec.os (o:=o) (T:=T) (xs:=xs++ys) ver cap (pad.drop (ys.length * i.size)) (sz:=i.size) (by
     rw [List.length_append,x5,List.length_append,hfx,hfy,List.length_drop,hpl]
     omega) (fun y hy=>by
     rcases List.mem_append.1 hy with h|h
     ·exact hw y h
     ·exact hys y h) (by simpa using hroom) hcm
    rw [List.length_append] at this
    exact this
   ·refine grow (some ⟨(G.ob o).blk,0,none⟩) cap (c.toList.take (xs.length * i.size)) ?_ (by omega) (by
     have:xs.length * i.size≤cap * i.size:=Nat.mul_le_mul_right _ hle
     simp
     omega) hw (fun j a b h1 h2=>?_) (growslice_fits (by omega) hbytes)
    ·refine run_firstCells_some w.drew i.size xs.length ⟨(G.ob o).blk,0,none⟩ xs.length cap _ (by
      have:xs.length * i.size≤cap * i.size:=Nat.mul_le_mul_right _ hle
      simp
      omega) fun j y hy=>?_
     have e1':w.drew.heap[(G.ob o).blk]? = some (.cells c T (0,0)):=g4
     rw [Addr.add_lit]
     rw [List.getElem?_take] at hy
     split at hy
     ·simp only [Array.getElem?_toList] at hy
      simp [World.cell?,e1',hy]
     ·simp at hy
    ·have hj:=lt_of_getElem? h1
     rw [List.getElem?_take_of_lt (by omega)] at h2
     exact g6 j a b (by rw [List.getElem?_append_left hj];exact h1) (by simpa using h2)
end
section
variable {E : Env} {rd : Option Nat} {N : Nat} {ops : Array Oper} {K : AS → Prop} {s : AS} {rest : List Oper} {d : Option Tmp} {T : TypeId} {p : String} {af : Array Edge}
theorem qv8 {x y:Operand} {t u T':TypeId} {sz bytes o:Nat} {xs ys:List AV} {tip:Option Nat} {a:AV} {ob:AObj} (hx:qj N s x=a) (hy:qj N s y = .sl sz ys tip) (hV:Vec sz T' o xs a ob) (ho:s.st[o]? = some ob)
  (ht:E.P.underlying t=some (.slice T')) (hu:E.P.underlying u=some (.slice T')) (hT:qad E.P T' sz bytes) (hone:ke (flat ys)=true) (h63:xs.length+ys.length≤maxLen) (hb:(xs.length+ys.length) * bytes≤140737488355328)
  (h:∀ a' ob',Vec sz T' o (xs++ys) a' ob'→AOps E rd N ops rest K (AS.put ⟨s.t,s.st.set o ob',s.df⟩ d a')):AOps E rd N ops (⟨d,.call ⟨.builtin .append,#[x,y],#[t,u]⟩,T,p,af,none⟩::rest) K s:=by
 refine zf rfl (ze nofun fun B0 w0 G a0 w _ hI=>?_)
 obtain⟨news,h1,h2,h3⟩:=yx (P:=E.P) hI.agree (hI.eval_of hy) (by simpa [ke] using hone)
 obtain⟨v',w',G',a',ob',e1,e2,e3,e4,e5⟩:=qlu (ty:=T) hI.agree ht hu (.inr ⟨_,rfl⟩) hT hV ho (hI.eval_of hx) h1 h2 h3 h63 hb
 refine⟨v',w',G',_,_,?_,e2,e3,e4,h a' ob' e5⟩
 generalize a0.eval = ρ at e1
 simp [execOp,resolve,invoke,builtin,e1]
theorem q7k {sz:Nat} {T:TypeId} {o:Nat} {xs:List AV} {a:AV} {ob:AObj} (h:Vec sz T o xs a ob):(xs=[]∧a=zu∧ob = .tip 0 sz T)∨∃ ver cap pad,a = .os o ver 0 xs.length cap∧ob = .cells ver T (flat xs++pad)∧(flat xs++pad).length=cap * sz∧(∀ x∈xs,x.cells.length=sz)∧xs.length≤cap∧cap≤maxLen:=by
 cases h with
 |nil h=>exact .inl ⟨h,rfl,rfl⟩
 |os ver cap pad h1 h2 h3 h4=>exact .inr ⟨ver,cap,pad,rfl,rfl,h1,h2,h3,h4⟩
theorem qpb {sz:Nat}:∀ {xs:List AV} {i:Nat} {x:AV},(∀ x∈xs,x.cells.length=sz)→x.cells.length=sz→i<xs.length→∀ pad,j9 (flat xs++pad) (0+i * sz) x.cells=flat (xs.set i x)++pad
 | [],_,_,_,_,h,_=>by simp at h
 |y::xs,0,x,hw,hx,_,pad=>by
  have hy:=hw y (by simp)
  simp only [List.set_cons_zero,qbd,j9,Nat.zero_mul,Nat.zero_add,List.take_zero,List.nil_append,hx]
  rw [List.append_assoc,List.drop_append_of_le_length (by omega),← hy,List.drop_length]
  simp
 |y::xs,i+1,x,hw,hx,h,pad=>by
  have hy:=hw y (by simp)
  have ih:=qpb (xs:=xs) (i:=i) (x:=x) (fun z hz=>hw z (by simp [hz])) hx (by simpa using h) pad
  simp only [List.set_cons_succ,qbd,j9,Nat.zero_add] at ih ⊢
  have e:(i+1) * sz=y.cells.length+i * sz:=by rw [Nat.add_mul,hy];omega
  simp only [List.append_assoc] at ih ⊢
  rw [e,List.take_length_add_append,show y.cells.length+i * sz+x.cells.length=y.cells.length+(i * sz+x.cells.length) by omega,List.drop_length_add_append]
  simp only [List.append_assoc]
  rw [ih]
theorem zci {sz:Nat} {T:TypeId} {o ver cap:Nat} {xs pad:List AV} (hl:(flat xs++pad).length=cap * sz) (hw:∀ x∈xs,x.cells.length=sz) (hle:xs.length≤cap) (hcm:cap≤maxLen) {i:Nat} {x:AV} (hx:x.cells.length=sz) (hi:i<xs.length) :
  Vec sz T o (xs.set i x) (.os o ver 0 xs.length cap) (.cells ver T (j9 (flat xs++pad) (0+i * sz) x.cells)):=by
 rw [qpb hw hx hi]
 have hw':∀ y∈xs.set i x,y.cells.length=sz:=fun y hy=>by
  rcases List.mem_or_eq_of_mem_set hy with h|rfl
  ·exact hw y h
  ·exact hx
 have:=Vec.os (o:=o) (T:=T) (xs:=xs.set i x) ver cap pad (sz:=sz) (by
  rw [List.length_append] at hl ⊢
  rw [z4 hw',List.length_set,← z4 hw]
  exact hl) hw' (by simpa using hle) hcm
 rw [List.length_set] at this
 exact this
theorem q12 {sz:Nat} {xs pad:List AV} (hw:∀ x∈xs,x.cells.length=sz) {i:Nat} {x:AV} (hi:xs[i]? = some x):((flat xs++pad).drop (i * sz)).take sz=x.cells:=by
 have hlt:=lt_of_getElem? hi
 have hx:=hw x (List.mem_of_getElem? hi)
 apply List.ext_getElem?
 intro j
 rw [List.getElem?_take]
 by_cases hj:j<sz
 ·rw [if_pos hj,List.getElem?_drop,← qhy hw hi j hj]
  have hle:(i+1) * sz≤xs.length * sz:=Nat.mul_le_mul_right _ hlt
  rw [Nat.succ_mul] at hle
  rw [List.getElem?_append_left (by rw [z4 hw];omega)]
 ·rw [if_neg hj,List.getElem?_eq_none (by omega)]
end
structure Chg (N:Nat) (s s':AS):Prop where
 run:∀ (B0:Nat) (w0:World) (G:Gh) (a:Act) (w:World),Inv B0 w0 N G s a w→∃ G',G.le G'∧Inv B0 w0 N G' s' a w
theorem Chg.trans {N:Nat} {s s' s'':AS} (h:Chg N s s') (k:Chg N s' s''):Chg N s s'':=⟨fun B0 w0 G a w hI=>let ⟨G1,h1,h2⟩:=h.run B0 w0 G a w hI;let ⟨G2,k1,k2⟩:=k.run B0 w0 G1 a w h2;⟨G2,h1.trans k1,k2⟩⟩
section
variable {E : Env} {rd : Option Nat} {N : Nat} {ops : Array Oper} {K : AS → Prop} {s s' : AS}
theorem q7z {fn:Func} {R:AV→List AObj→Prop} (hc:Chg fn.ntmps s s') (h:ARet E fn R s'):ARet E fn R s:=
 ⟨fun B0 w0 G a w hL hI R2 hR2=>let ⟨G1,h1,h2⟩:=hc.run B0 w0 G a w hI;h.run B0 w0 G1 a w hL h2 R2 fun v G' r st' w' hG k1 k2 k3=>hR2 v G' r st' w' (h1.trans hG) k1 k2 k3⟩
theorem q8b (i:Nat) {x r:AV} (hi:s.t i=x) (hw:∀ G v,Rel G x v→Rel G r v):Chg N s ⟨Av.put s.t i r,s.st,s.df⟩:=
 ⟨fun B0 w0 G a w hI=>⟨G,.refl G,hI.agree,hI.defers,hI.size,fun j y hy=>by
  have hj:=hI.tmps j y hy
  by_cases e:j=i
  ·subst e;simp only [xv];rw [hi] at hj;exact hw G y hj
  ·simp only;rw [qaw _ _ _ _ e];exact hj⟩⟩
theorem q8a (o:Nat):Chg N s ⟨s.t,s.st.set o .dead,s.df⟩:=⟨fun B0 w0 G a w hI=>⟨G,.refl G,hI.agree.kill o,hI.defers,hI.size,hI.tmps⟩⟩
theorem q2s (i:Nat) {sz o:Nat} {T':TypeId} {xs:List AV} {v:AV} {ob:AObj} (hi:s.t i=v) (hV:Vec sz T' o xs v ob) (ho:s.st[o]? = some ob):Chg N s ⟨Av.put s.t i (.sl sz xs none),s.st.set o .dead,s.df⟩:=by
 cases hV with
 |nil hx=>
  subst hx
  exact (q8b i hi (fun _ _ h=>qb9 h)).trans (q8a o)
 |os ver cap pad hl hw hle hcm=>
  have hm:xs.length * sz≤cap * sz:=Nat.mul_le_mul_right _ hle
  refine⟨fun _ _ _ _ _ hI=>hI.osPub hi ho rfl hle hw (by omega) ?_⟩
  rw [List.drop_zero,List.take_append_of_le_length (by rw [z4 hw];exact Nat.le_refl _),List.take_of_length_le (by rw [z4 hw];exact Nat.le_refl _)]
theorem qzu (i:Nat) {sz k:Nat} {T':TypeId} {xs:List AV} {v:AV} {ob:AObj} {st loc ext new:List AObj} (hs:s.st=((st++loc)++ext)++new) (hi:s.t i=v) (hV:Vec sz T' (st.length+k) xs v ob) (ho:loc[k]? = some ob):Chg N s ⟨Av.put s.t i (.sl sz xs none),((st++loc.set k .dead)++ext)++new,s.df⟩:=by
 have:=q2s (N:=N) i hi hV (by rw [hs];exact qap ho)
 rw [hs,qdu _ (lt_of_getElem? ho)] at this
 exact this
theorem quz {rest:List Oper} {d:Option Tmp} {T:TypeId} {p:String} {af:Array Edge} {x y:Operand} {t u T':TypeId} {sz bytes k:Nat} {xs ys:List AV} {tip:Option Nat} {a:AV} {ob:AObj} {st loc ext new:List AObj} (hs:s.st=((st++loc)++ext)++new) (hx:qj N s x=a) (hy:qj N s y = .sl sz ys tip) (hV:Vec sz T' (st.length+k) xs a ob) (ho:loc[k]? = some ob)
  (ht:E.P.underlying t=some (.slice T')) (hu:E.P.underlying u=some (.slice T')) (hT:qad E.P T' sz bytes) (hone:ke (flat ys)=true) (h63:xs.length+ys.length≤maxLen) (hb:(xs.length+ys.length) * bytes≤140737488355328)
  (h:∀ a' ob',Vec sz T' (st.length+k) (xs++ys) a' ob'→AOps E rd N ops rest K (AS.put ⟨s.t,((st++loc.set k ob')++ext)++new,s.df⟩ d a')):AOps E rd N ops (⟨d,.call ⟨.builtin .append,#[x,y],#[t,u]⟩,T,p,af,none⟩::rest) K s:=
 qv8 hx hy hV (by rw [hs];exact qap ho) ht hu hT hone h63 hb fun a' ob' hV'=>by rw [hs,qdu _ (lt_of_getElem? ho)];exact h a' ob' hV'
end
end Go.Av
namespace Go.Proofs.YtneejjefekdgjaaGreatDoor
open Go Go.Av Go.RowKit Go.Proofs Go.Pl
theorem q62 (text:List UInt8) (o kb ver n:Nat) (I:Nat→List UInt8→List AObj→Prop) (D:List AObj→Prop) (st l0:List AObj) (ht:text.length<4294967281) (h0:I 0 text l0)
  (hI:∀ k rest l,I k rest l→l.length=n∧(st++l)[kb]? = some (.cells ver 9 [Sv text]))
  (hY:∀ k rest l own ext,I k rest l→rest≠[]→rest.length≤text.length→qab E o [qdk k text rest] (st++(l++own::ext)) fun b st2=>∃ l' ext',st2=st++(l'++own::ext')∧(b=true→I (k+1) (past 10 rest) l')∧(b=false→D l'∧l'.length=n)) :
  qn E 121 [.yd o,.bx kb ver 0] (st++l0) fun r st'=>∃ l own ext',st'=st++(l++own::ext')∧((∃ k,I k [] l)∨D l):=by
 refine qo Tryz.func121 rfl (Nat.le_of_ble_eq_true rfl) ?_
 obtain⟨hn,hb⟩:=hI 0 text l0 h0
 repeat' (first|apply qm|apply qt|apply qd|apply qc|apply qe|(apply kc;exact rfl;exact rfl)|(apply jk;(iterate 11 exact rfl))|(apply xi;(iterate 3 exact rfl))|(apply qcj;exact rfl;exact rfl;exact hb;exact rfl;exact rfl))
 refine jh (fun (x:Nat×List UInt8) s=>match x with|(k,rest)=>∃ l at' ta eb ext,I k rest l∧k+rest.length≤text.length∧at'=(text.length:Int) - rest.length∧StA [(0,.yd o),(1,.bx kb ver 0),(3,.bx ((st++l0).length+0) 0 0),(4,Sv rest)] ((st++l)++(.cells 0 145 [Iv k,Iv at',Sv ta,Bv eb]::ext)) [] s) (fun x=>x.2.length) (0,text)
  ⟨l0,0,[],false,[],h0,by simp,by simp,?_⟩ ?_
 ·exact zw ⟨rfl,rfl,rfl,rfl,trivial⟩
 rintro⟨k,rest⟩ _ ⟨l,_,ta,eb,ext,hi,hle,rfl,t,rfl⟩
 obtain⟨hn',hb'⟩:=hI k rest l hi
 have hq:(st++l).length=(st++l0).length:=by simp [hn,hn']
 repeat' (first|apply qm|apply qt|apply qd|apply qc|apply qi|apply qe|(apply q9;exact rfl;exact rfl)|(apply jg;(iterate 3 exact rfl))|(apply qb;exact rfl;apply cd_d <;> intro h)|(apply zm;(iterate 3 exact rfl))|apply qw|apply z7|(apply qf;exact Tryz.call72;exact qhw _ _ _ (by omega))|(apply qa4;exact rfl;exact hq;(iterate 10 exact rfl))|(apply qbu;exact rfl;exact hq;(iterate 4 exact rfl)))
 ·refine qfq rfl (qzo (List.append_assoc st l (_::ext)).symm ((hY k rest l _ ext hi h (by omega)).mono ?_))
  rintro b _ ⟨l',ext',rfl,h1,h2⟩
  cases b
  ·skip
   rw [← List.append_assoc]
   repeat' (first|apply qc|(apply jd;exact rfl)|(apply qb;exact rfl;apply qkr;exact cRa)|apply qs)
   refine qk rfl (qa6 rfl) ⟨l',_,ext',List.append_assoc _ _ _,.inr (h2 rfl).1⟩
  ·have hi3:=h1 rfl
   obtain⟨hn3,hb3⟩:=hI _ _ _ hi3
   have hp:=kq 10 rest
   have hr0:0<rest.length:=List.length_pos_iff.2 h
   have hq3:(st++l').length=(st++l0).length:=by simp [hn,hn3]
   rw [← List.append_assoc]
   repeat' (first|apply qm|apply qd|apply qc|apply qi|(apply jd;exact rfl)|(apply qb;exact rfl;apply qiq;exact cRa)|(apply zo;(iterate 3 exact rfl))|(apply zt;exact rfl;exact rfl;exact zb (by omega) (by omega))|(apply w8;exact rfl;exact rfl;exact zb (by omega) (by omega))|(apply zm;(iterate 3 exact rfl))|apply qw|(apply qcj;exact rfl;exact rfl;exact hb3;exact rfl;exact rfl)|(apply qa4;exact rfl;exact hq3;(iterate 10 exact rfl))|(apply qbu;exact rfl;exact hq3;(iterate 4 exact rfl)))
   exact⟨(k+1,past 10 rest),⟨l',_,_,_,_,hi3,by omega,rfl,zw ⟨rfl,rfl,rfl,rfl,trivial⟩⟩,by simp only;omega⟩
 ·have hr:rest=[]:=Classical.not_not.1 h
  subst hr
  exact qk rfl (qa6 rfl) ⟨l,_,ext,List.append_assoc _ _ _,.inl ⟨k,hi⟩⟩
theorem qsg {N:Nat} {Q:Exit→AS→Prop} {s:AS} {f:Operand} {p:Tmp} {asg body:Code} {st loc:List AObj} {kb ver:Nat} (text:List UInt8) (hst:s.st=st++loc) (hx:qj N s f = .fn (.func 121) [] [.bx (st.length+kb) ver 0]) (ht:text.length<4294967281)
  (I:Nat→List UInt8→List AObj→Prop) (D:Code→List AObj→Prop) (h0:I 0 text loc)
  (hI:∀ k rest l,I k rest l→l.length=loc.length∧l[kb]? = some (.cells ver 9 [Sv text])) (hD:∀ c l,D c l→l.length=loc.length)
  (hb:∀ F own rd k rest l ext m,qki F N s.t #[p] asg body→I k rest l→rest≠[]→rest.length≤text.length→((st++(l++[.dfr,F .ready none,own]))++ext).length=m→((st++(l++[.dfr,F .busy none,own]))++ext).length=m →
   AWp E (some rd) N asg (only fun s1=>∃ new,s1.st=((st++(l++[.dfr,F .ready none,own]))++ext)++new∧s1.df=[]∧AWp E (some rd) N body (q6u F st own (I (k+1) (past 10 rest)) D) ⟨s1.t,((st++(l++[.dfr,F .busy none,own]))++ext)++new,[]⟩) ⟨put s.t p (qdk k text rest),((st++(l++[.dfr,F .ready none,own]))++ext)++[],[]⟩)
  (hn:∀ k l ext,I k [] l→Q .normal ⟨s.t,((st++(l++[.dfr,.dead]))++ext)++[],(st.length+loc.length)::s.df⟩)
  (hd:∀ c l ext,D c l→AWp E none N c Q ⟨s.t,((st++(l++[.dfr,.dead]))++ext)++[],(st.length+loc.length)::s.df⟩):AWp E none N (.rangeFunc f #[p] asg body) Q s:=by
 refine qkp hst hx Tryz.call121 fun F hF=>?_
 refine qn.mono (q62 text (st.length+(loc.length+1)) (st.length+kb) ver (loc.length+2) (fun k rest l=>∃ l1,l=l1++[.dfr,F .ready none]∧I k rest l1) (fun l=>∃ l1 c,l=l1++[.dfr,F .done (some c)]∧D c l1) st (loc++[.dfr,F .ready none]) ht ⟨loc,rfl,h0⟩ ?_ ?_) ?_
 ·rintro k rest _ ⟨l,rfl,hi⟩
  obtain⟨h1,h2⟩:=hI k rest l hi
  exact⟨by simp [h1],zl (by rw [List.getElem?_append_left (lt_of_getElem? h2)];exact h2)⟩
 ·rintro k rest _ own ext ⟨l,rfl,hi⟩ hne hle
  obtain⟨h1,h2⟩:=hI k rest l hi
  have hy:=q72 (E:=E) (st:=st) (l:=l) (ext:=ext) (own:=own) (n:=loc.length) (xs:=[qdk k text rest]) (I:=I (k+1) (past 10 rest)) (D:=D) hF h1 rfl (fun l hl=>(hI _ _ l hl).1) hD (fun rd=>hb F own rd k rest l ext _ hF hi hne hle rfl (by simp))
  have e:(st++(l++[.dfr,F .ready none,own]))++ext=st++((l++[.dfr,F .ready none])++own::ext):=by simp
  rw [e] at hy
  refine hy.mono ?_
  rintro b st2 ⟨l',ext',g1,g2⟩
  cases b with
  |true=>
   obtain⟨rfl,g⟩:=g1 rfl
   exact⟨l'++[.dfr,F .ready none],ext',by simp,fun _=>⟨l',rfl,g⟩,nofun⟩
  |false=>
   obtain⟨c,rfl,g⟩:=g2 rfl
   exact⟨l'++[.dfr,F .done (some c)],ext',by simp,nofun,fun _=>⟨⟨l',c,rfl,g⟩,by simp [hD c l' g]⟩⟩
 ·rintro r _ ⟨_,own,ext,rfl,⟨k,l,rfl,hi⟩ | ⟨l,c,rfl,hdl⟩⟩
  ·have h1:=(hI _ _ _ hi).1
   have e:st++((l++[.dfr,F .ready none])++own::ext)=(st++(l++[.dfr,F .ready none,own]))++ext:=by simp
   rw [e]
   refine⟨.ready,none,nofun,qc4 h1,?_⟩
   rw [qe0 h1]
   have:=hn k l (own::ext) hi
   simpa using this
  ·have h1:=hD _ _ hdl
   have e:st++((l++[.dfr,F .done (some c)])++own::ext)=(st++(l++[.dfr,F .done (some c),own]))++ext:=by simp
   rw [e]
   refine⟨.done,some c,nofun,qc4 h1,?_⟩
   rw [qe0 h1]
   have:=hd c l (own::ext) hdl
   simpa using this
abbrev Ss (xs:List qa):AV:=.sl 1 (xs.map fun x=>Sv x) none
theorem qie (l m:List UInt8) (st:List AObj):qn E 74 [Sv l,Sv m] st fun r st'=>r=Sv (Lib.trimPrefix l m)∧st'=st:=
 yi (vals:= #[.string ⟨l.toArray⟩,.string ⟨m.toArray⟩]) rfl fun _ _ w _ _=>(Tryz.strings_TrimPrefix ⟨l.toArray⟩ ⟨m.toArray⟩ w).mono fun _ _ ⟨h1,h2⟩=>⟨h1,qdx h2⟩
theorem q11 (l:List UInt8) (c:UInt8) (st:List AObj):qn E 74 [Sv l,Sv [c]] st fun r st'=>r=Sv (v6 c l)∧st'=st:=by
 rw [← qs7]
 exact qie _ _ _
theorem q37 {B0:Nat} {w0:World} {G:Gh} {st:List AObj} {w:World} (hA:zk B0 w0 G st w) {xs:List qa} {tip:Option Nat} {v:Value} (h:Rel G (.sl 1 (xs.map fun x=>Sv x) tip) v) :
  (xs=[]∧∃ a c,v = .slice a 0 c)∨∃ b off cap,v = .slice (some ⟨b,off,none⟩) xs.length cap∧b<w.heap.size∧xs.length≤cap∧∀ (j:Nat) (x:qa),xs[j]? = some x→w.cell? ⟨b,off+j,none⟩=some (.string ⟨x.toArray⟩):=by
 generalize hq:xs.map (fun x=>Sv x)=q at h
 cases h with
 |sl0 sz tip base cap ht=>exact .inl ⟨by simpa using hq,base,cap,rfl⟩
 |sl _ _ _ b off cap pub hp hw hlen hr ht hcap=>
  subst hq
  obtain⟨c,T,fz,hc,hcc⟩:=hA.pub b pub hp
  refine .inr ⟨b,off,cap,by simp,hA.pub_lt hp,by simpa using hcap,fun j x hx=>?_⟩
  have hfl:flat (xs.map fun x=>Sv x)=xs.map fun x=>Sv x:=by
   clear hx hr hlen hw ht hcap
   induction xs with
   |nil=>rfl
   |cons a xs ih=>rw [List.map_cons,qbd,ih];rfl
  have hj:=lt_of_getElem? hx
  rw [hfl] at hlen
  simp only [List.length_map] at hlen
  have hy:pub[off+j]? = some (pub[off+j]'(by omega)):=List.getElem?_eq_getElem (by omega)
  have hrj:=hr j (Sv x) _ (by rw [hfl,List.getElem?_map,hx];rfl) hy
  generalize hz:pub[off+j]'(by omega)=z at hrj hy
  generalize hSx:Sv x=sx at hrj
  cases hrj <;> simp_all
  subst_vars
  simp [World.cell?,hc,hcc _ _ hy]
theorem q5y (xs:List qa) (tip:Option Nat) (sep:qa) (st:List AObj) (hN:xs.length≤140737488355328) (hl:(Lib.join xs sep).length≤140737488355328):qn E 127 [.sl 1 (xs.map fun x=>Sv x) tip,Sv sep] st fun r st'=>r=Sv (Lib.join xs sep)∧st'=st:=by
 refine⟨fun B0 w0 G vs w hL hA hR=>?_⟩
 have hs:vs.size=2:=by have:=hR.1;simpa using this.symm
 have e0:vs[0]? = some vs[0]:=by simp [hs]
 have e1:vs[1]? = some vs[1]:=by simp [hs]
 have h0:=hR.2 0 _ _ rfl e0
 have h1:=hR.2 1 _ _ rfl e1
 have hv1:vs[1] = .string ⟨sep.toArray⟩:=by generalize vs[1]=y at h1;cases h1;rfl
 have hvs:vs = #[vs[0],.string ⟨sep.toArray⟩]:=by
  apply Array.ext (by simp [hs])
  intro i g1 g2
  match i with
  | 0=>rfl
  | 1=>exact hv1
  |i+2=>simp [hs] at g1;omega
 rw [hvs]
 rcases q37 hA h0 with⟨hx,a,c,hv⟩ | ⟨b,off,cap,hv,hb,hcap,hcell⟩
 ·rw [hv]
  subst hx
  refine (Tryz.strings_Join_none a c ⟨sep.toArray⟩ w).mono ?_
  rintro e w' ⟨rfl,rfl⟩
  exact⟨_,G,Sv [],st,rfl,.refl G,hA,.v _,rfl,rfl⟩
 ·rw [hv]
  have hm:(xs.map fun l:qa=>(⟨l.toArray⟩:ByteArray)).map (·.data.toList)=xs:=by simp [List.map_map,Function.comp_def]
  have hc:=Tryz.strings_Join b off cap (xs.map fun l=>⟨l.toArray⟩) ⟨sep.toArray⟩ w (fun j x hx=>by
   rw [List.getElem?_map] at hx
   cases hq:xs[j]? with
   |none=>rw [hq] at hx;simp at hx
   |some y=>rw [hq] at hx;simp at hx;subst hx;exact hcell j y hq) hb (by simpa using hN) (by simpa using hcap) (by rw [hm];simpa using hl)
  rw [hm] at hc
  simp only [List.length_map] at hc
  refine hc.mono ?_
  rintro e w' ⟨rfl,hbw⟩
  exact⟨_,G,Sv _,st,rfl,.refl G,hA.fresh hbw,.v _,rfl,rfl⟩
def Weak (x r:AV):Prop:=∀ (G:Gh) (v:Value),Rel G x v→Rel G r v
theorem qbk (x:AV):Weak x x:=fun _ _ h=>h
theorem qlt (sz:Nat) (xs:List AV) (tip:Option Nat):Weak (.sl sz xs tip) (.sl sz xs none):=fun _ _ h=>qi9 h
theorem qfm (sz:Nat):Weak zu (.sl sz [] none):=fun _ _ h=>qb9 h
theorem qen {x y x' y':AV} (h1:Weak x x') (h2:Weak y y'):Weak (.tu [x,y]) (.tu [x',y']):=fun G v h=>by
 cases h with
 |tu _ vs hl hr=>
  refine .tu _ vs hl fun i a b ha hb=>?_
  match i with
  | 0=>simp at ha;subst ha;exact h1 G b (hr 0 x b rfl hb)
  | 1=>simp at ha;subst ha;exact h2 G b (hr 1 y b rfl hb)
  |i+2=>simp at ha
theorem zcj {xs ys:List AV} (hl:xs.length=ys.length) (h:∀ (i:Nat) (x y:AV),xs[i]? = some x→ys[i]? = some y→Weak x y):Weak (.ag xs) (.ag ys):=fun G v hr=>by
 cases hr with
 |ag _ vs hl' hr=>
  refine .ag _ vs (by omega) fun i a b ha hb=>?_
  have hi:=lt_of_getElem? ha
  exact h i _ a (List.getElem?_eq_getElem (by omega)) ha G b (hr i _ b (List.getElem?_eq_getElem (by omega)) hb)
theorem q2h {fn:Func} {s:AS} {t u:Tmp} {x y x' y':AV} (hr:fn.results = #[.tmp t,.tmp u]) (hx:qj fn.ntmps s (.tmp t)=x) (hy:qj fn.ntmps s (.tmp u)=y) (h1:Weak x x') (h2:Weak y y'):ARes E fn s (.tu [x',y']):=
 xb (j5 hr) (by rw [hx,hy];exact qen h1 h2)
def errN (n:Int):AV:=if n=0 then .v .nilIface else .ifc 62 (Iv n)
theorem qiv (n:Int):Pure (errN n):=by
 unfold errN
 split
 ·exact qx _
 ·exact qch (qx _)
theorem qj1 {n:Int} (h:n≠0):errN n = .ifc 62 (Iv n):=if_neg h
theorem qoj (f:FldV) (st:List AObj) (hl:f.1.length<4294967281):qn E 273 [fldA f] st fun r st'=>r=errN (ko f)∧st'=st:=by
 refine qu (qiv _) (qo Tryz.func273 rfl (Nat.le_of_ble_eq_true rfl) ?_)
 repeat' (first|apply qm|apply qt|apply qd|apply qc|apply qe|(apply qq;(iterate 3 exact rfl))|(apply jd;exact rfl)|(apply qb;exact rfl;apply cd_n <;> intro h)|(apply qb;exact rfl;apply cd_d <;> intro h)|(apply zo;(iterate 3 exact rfl))|(apply vf;exact rfl;exact rfl)|(apply qbm;(iterate 4 exact rfl))|(apply zm;(iterate 3 exact rfl))|(apply za;(iterate 5 exact rfl))|apply qw|apply qs|(apply qf;exact Tryz.call99;exact zae _ _ hl))
 all_goals refine qk rfl (qz rfl) ⟨(?_:_=_),_,rfl⟩
 ·have e:ko f=5:=if_pos (by simp_all)
  rw [e];rfl
 ·have e:ko f=6:=(if_neg (by simp_all)).trans (if_pos (by omega))
  rw [e];rfl
 ·have e:ko f=0:=(if_neg (by simp_all)).trans (if_neg (by omega))
  rw [e];rfl
theorem qh0 (f:FldV) (st:List AObj) (hl:f.1.length<4294967281) (h:ko f=0):qn E 273 [fldA f] st fun r st'=>r = .v .nilIface∧st'=st:=by
 have:=qoj f st hl
 rw [h] at this
 exact this
theorem qh1 (f:FldV) (st:List AObj) (hl:f.1.length<4294967281) (h:ko f≠0):qn E 273 [fldA f] st fun r st'=>r = .ifc 62 (Iv (ko f))∧st'=st:=by
 have:=qoj f st hl
 rw [qj1 h] at this
 exact this
theorem q69 (s:List UInt8) (st:List AObj) (hl:s.length<4294967281):qn E 294 [Sv s] st fun r st'=>r=Sv (vi s)∧st'=st:=by
 refine qu (qx _) (qo Tryz.func294 rfl (Nat.le_of_ble_eq_true rfl) ?_)
 have hb:Lib.trimS s [32,9]=[]↔qbn s:=by rw [qnc];simp [vv,qbn]
 repeat' (first|apply qm|apply qd|apply qc|apply qi|apply qe|(apply jg;(iterate 3 exact rfl))|(apply qv;(iterate 4 exact rfl))|(apply vl;exact cAo)|(apply vq;exact cAo)|(apply je <;> intro h)|(apply qh;exact rfl;apply wp;exact cAo)|(apply qh;exact rfl;apply v8;exact cAo)|(apply qb;exact rfl;apply cd_t;exact cRa)|(apply qb;exact rfl;apply cd_d <;> intro h)|(apply jl;exact rfl;exact rfl;exact cOs)|apply qw|apply qs|(apply qf;exact Tryz.call209;exact qs6 _ _ _ (by omega) rfl rfl)|(apply qf;exact Tryz.call164;exact qfd _ _ _))
 all_goals refine qk rfl (qz rfl) ⟨congrArg (fun l:qa=>Sv l) (?_:_=vi s),_,rfl⟩
 all_goals unfold vi
 all_goals simp_all
theorem qj8 (xs:List qa):Pure (Ss xs):=q6l xs
theorem q35 (l p:qa) (r:List qa) (st:List AObj) (hl:l.length<4294967281) (h:q5 l=p::r):qn E 285 [Sv l,Sv [10]] st fun x st'=>x = .sl 1 (Sv p::r.map fun x=>Sv x) none∧st'=st:=by
 have:=q61 l st hl
 rw [h] at this
 exact this
def qh2 (f:FldV):AV:=.tu [Ss (if ko f=0 then zj f else []),errN (ko f)]
theorem qz2 (f:FldV):Pure (qh2 f):=qdq fun x hx=>by
 simp only [List.mem_cons,List.not_mem_nil,or_false] at hx
 rcases hx with rfl|rfl
 ·exact qj8 _
 ·exact qiv _
set_option maxHeartbeats 2000000 in
theorem qok (f:FldV) (st:List AObj) (hl:f.1.length<4294967281) (hv:f.2.length<1000000):qn E 237 [fldA f] st fun r st'=>r=qh2 f∧st'=st:=by
 refine qu (qz2 _) (qo Tryz.func237 rfl (Nat.le_of_ble_eq_true rfl) ?_)
 by_cases hc:ko f=0
 ·obtain⟨p,r,hp⟩:∃ p r,q5 f.2=p::r:=⟨_,_,qld f.2⟩
  have hpl:p.length≤f.2.length:=qd6 f.2 p (by rw [hp];simp)
  have hrl:∀ x∈r,x.length≤f.2.length:=fun x hx=>qd6 f.2 x (by rw [hp];simp [hx])
  have hrn:r.length≤f.2.length:=by have:=qbs _ f.2 (Nat.le_refl _);rw [hp] at this;simpa using this
  repeat' (first|(apply qas;(iterate 6 exact rfl))|(apply qth;(iterate 5 exact rfl);kernel_rfl)|apply qm|apply qt|apply qd|apply qc|apply qi|apply qe|(apply jg;(iterate 3 exact rfl))|(apply qb;exact rfl;apply cd_f;exact cRa)|(apply qb;exact rfl;apply cd_d <;> intro h)|(apply kl;(iterate 4 exact rfl))|(apply jl;exact rfl;exact rfl;exact cOs)|(apply vt;exact rfl;exact rfl)|(apply qbm;(iterate 4 exact rfl))|(apply zm;(iterate 3 exact rfl))|(apply zg;(iterate 3 exact rfl))|(apply za;(iterate 5 exact rfl))|(apply jk;(iterate 11 exact rfl))|(apply qjr;(iterate 4 exact rfl);(first|assumption|omega|exact Nat.succ_le_succ (Nat.zero_le _)|(simp;omega));exact rfl)|apply qbv|(apply qik;exact rfl;exact rfl;exact cOs)|(apply qag;(iterate 3 exact rfl))|(apply qn6;(iterate 5 exact rfl))|apply qao|apply qw|(apply qf;exact Tryz.call273;exact qh0 _ _ hl hc)|(apply qf;exact Tryz.call285;exact q35 _ _ _ _ (by omega) hp)|(apply kr (n:=0);(iterate 6 exact rfl))|(apply vg (n:=0);(iterate 6 exact rfl))|(apply qil (n:=0);(iterate 5 exact rfl);omega))
  all_goals refine q4w 6 (o:=st.length+1) (sz:=1) (len:=1) (cap:=1) (xs:=[Sv (jy f.1 p)]) (T':=9) rfl (zl rfl) rfl rfl (by omega) (Nat.le_refl _) (by decide) (by simp [AV.cells]) ?_ ?_
  ·exact congrArg (fun l:qa=>[Sv l]) (by unfold jy;rw [if_neg h]:jy f.1 p=f.1++[58]++([32]++p))
  rotate_left
  ·exact congrArg (fun l:qa=>[Sv l]) (by unfold jy;rw [if_pos (Classical.not_not.1 h),List.append_nil]:jy f.1 p=f.1++[58])
  all_goals
   have hre:qh2 f = .tu [Ss (jy f.1 p::r.map fun s=>[32]++vi s),.v .nilIface]:=by
    unfold qh2 zj
    rw [if_pos hc,hc,hp]
    rfl
   rw [hre]
   have hst:∀ s,(vi s).length≤s.length+1:=qus
   refine qa7 r (fun pre s=>StE [(6,.sl 1 (Sv (jy f.1 p)::pre.map (fun s=>Sv ([32]++vi s))) (some (st.length+1))),(35,.sl 1 (r.map fun x=>Sv x) none),(36,Iv r.length),(37,Iv pre.length)] st [.cells 0 111 [Sv f.1,Sv f.2],.tip (pre.length+1) 1 9] s) (qcs ⟨rfl,rfl,congrArg (fun n:Nat=>Iv (n:Int)) (List.length_map ..),rfl,trivial⟩ (xx st _ 1 _)) ?_ ?_
   ·rintro _ ⟨t,ext,rfl⟩
    repeat' (first|apply qm|apply qd|apply qc|apply qi|apply qe|(apply qq;(iterate 3 exact rfl))|(apply qb;exact rfl;apply vw;exact cAo)|apply z7|apply qs)
    refine qk rfl (q2h rfl rfl rfl (qlt _ _ _) (qbk _)) ⟨?_,xg _ _ _ _⟩
    simp only [Ss,List.map_cons,List.map_map]
    rfl
   ·rintro pre a rest _ hr ⟨t,ext,rfl⟩
    have hlen:r.length=pre.length+(rest.length+1):=by rw [hr];simp
    have hget:(r.map fun x=>Sv x)[pre.length]? = some (Sv a):=by rw [hr];simp
    have ha:a.length≤f.2.length:=hrl a (by rw [hr];simp)
    have hsa:=hst a
    repeat' (first|apply qm|apply qt|apply qd|apply qc|apply qi|apply qe|(apply qq;(iterate 3 exact rfl))|(apply qb;exact rfl;apply ki;exact cAo)|(apply jl;exact rfl;exact rfl;exact cOs)|(apply zt;exact rfl;exact rfl;exact zb (by omega) (by omega))|(apply zg;(iterate 3 exact rfl))|(apply zx;(iterate 9 exact rfl))|apply qw|(apply qf;exact Tryz.call294;exact q69 _ _ (by omega))|(apply kr (n:=pre.length);(iterate 5 exact rfl);exact hget)|(apply qe5 (n:=pre.length+1) (m:=1) (sz:=1) (bytes:=16);(iterate 4 exact rfl);simp;exact rfl;exact rfl;exact⟨⟨_,_,rfl,rfl,rfl,rfl,rfl⟩⟩;exact rfl;exact rfl;(unfold maxLen;omega);omega;exact rfl))
    refine qaf ⟨?_,rfl,rfl,?_,trivial⟩ ?_
    ·exact q9x _ (fun s=>Sv ([32]++vi s)) pre a _ rfl
    ·exact qeq pre a
    ·rw [qdb pre a];rfl
 ·skip
  repeat' (first|apply qm|apply qd|apply qc|apply qi|apply qe|(apply qb;exact rfl;apply cd_t;exact cRa)|(apply wz;exact rfl;exact rfl)|(apply qbm;(iterate 4 exact rfl))|(apply za;(iterate 5 exact rfl))|apply qs|(apply qf;exact Tryz.call273;exact qh1 _ _ hl hc))
  refine qk rfl (xb (r':=.tu [Ss [],.ifc 62 (Iv (ko f))]) (j5 rfl) (qen (qfm _) (qbk _))) ⟨?_,_,rfl⟩
  unfold qh2
  rw [if_neg hc,qj1 hc]
theorem qjc {rd:Option Nat} {N:Nat} {ops:Array Oper} {K:AS→Prop} {s:AS} {rest:List Oper} {d:Option Tmp} {T:TypeId} {p:String} {af:Array Edge} {st loc:List AObj} (hst:s.st=st++loc)
  (h:AOps E rd N ops rest K (AS.put ⟨s.t,st++(loc++[bldO 0 (.v (.pointer none)) [] (st.length+(loc.length+1)),.tip 0 1 5]),s.df⟩ d (.bx (st.length+loc.length) 0 0))):AOps E rd N ops (⟨d,.alloc 246,T,p,af,none⟩::rest) K s:=by
 refine kc hst rfl ?_
 have e:∀ (t:Nat→AV) (st':List AObj) (df:List Nat) (x:AV),(AS.put ⟨t,st',df⟩ d x).st=st':=fun t st' df x=>by cases d <;> rfl
 have e2:∀ (t:Nat→AV) (st' st2:List AObj) (df:List Nat) (x:AV),(⟨(AS.put ⟨t,st',df⟩ d x).t,st2,(AS.put ⟨t,st',df⟩ d x).df⟩:AS)=AS.put ⟨t,st2,df⟩ d x:=fun t st' st2 df x=>by cases d <;> rfl
 refine qwd (o:=st.length+loc.length) (j:=1) (sz:=1) (T':=5) (T1:=246) (ver:=0) (cs:=[.v (.pointer none),zu]) ?_ rfl ?_
 ·rw [e,← List.append_assoc,List.getElem?_append_right (by simp)]
  simp
  rfl
 ·rw [e,e2]
  have hx:(st++(loc++[AObj.cells 0 246 [.v (.pointer none),zu]])).set (st.length+loc.length) (.cells 0 246 ([AV.v (.pointer none),zu].set 1 (.sl 1 [] (some (st++(loc++[AObj.cells 0 246 [.v (.pointer none),zu]])).length))))++[AObj.tip 0 1 5]
    = st++(loc++[bldO 0 (.v (.pointer none)) [] (st.length+(loc.length+1)),.tip 0 1 5]):=by
   rw [xx,List.append_assoc,List.set_append_right _ _ (Nat.le_refl _)]
   simp
  have h':=h
  rw [← hx] at h'
  exact h'
theorem qkq (st loc ext new loc':List AObj) (k kt ver:Nat) (q:AV) (l m:List UInt8) (hk:loc[k]? = some (bldO ver q l (st.length+kt))) (hkt:loc[kt]? = some (.tip l.length 1 5)) (hq:q = .v (.pointer none)∨q = .bx (st.length+k) ver 0)
  (hlen:l.length+m.length≤140737488355328) (hl:loc'=(loc.set k (bldO ver (.bx (st.length+k) ver 0) (l++m) (st.length+kt))).set kt (.tip (l++m).length 1 5)) :
  qn E 168 [.bx (st.length+k) ver 0,Sv m] (((st++loc)++ext)++new) fun r st'=>r = .tu [Iv m.length,.v .nilIface]∧st'=((st++loc')++ext)++new:=by
 refine (qwl (st.length+k) ver (st.length+kt) q l m _ (qap hk) (qap hkt) hq hlen).mono fun r st' ⟨h1,h2⟩=>⟨h1,?_⟩
 have hk1:=lt_of_getElem? hk
 have hk2:=lt_of_getElem? hkt
 rw [h2,qdu _ hk1,qdu _ (by simpa using hk2),hl,List.length_append]
theorem qje (st loc ext new loc':List AObj) (k kt ver:Nat) (q:AV) (l:List UInt8) (hk:loc[k]? = some (bldO ver q l (st.length+kt))) (hkt:loc[kt]? = some (.tip l.length 1 5)) (hl:loc'=loc.set kt .dead) :
  qn E 171 [.bx (st.length+k) ver 0] (((st++loc)++ext)++new) fun r st'=>r=Sv l∧st'=((st++loc')++ext)++new:=by
 refine (qtj (st.length+k) ver (st.length+kt) q l _ (qap hk) (qap hkt)).mono fun r st' ⟨h1,h2⟩=>⟨h1,?_⟩
 rw [h2,qdu _ (lt_of_getElem? hkt),hl]
theorem qpw:∀ (r:List qa),(zn (r.map fun s=>[32]++vi s)).length≤3 * (r.flatMap fun s=>[10]++s).length
 | []=>by simp [zn]
 |a::r=>by
  have ih:=qpw r
  have:=qus a
  simp only [zn,List.map_cons,List.flatMap_cons,List.length_append,List.length_cons,List.length_nil] at ih ⊢
  omega
theorem qan (a b:List qa):zn (a++b)=zn a++zn b:=by simp [zn]
theorem qgs (s:qa):zn [s]=s++[10]:=by simp [zn]
theorem qjp:∀ (l:List qa),l.length≤(zn l).length
 | []=>by simp
 |a::r=>by
  have ih:=qjp r
  simp only [zn,List.flatMap_cons,List.length_append,List.length_cons,List.length_nil] at ih ⊢
  omega
theorem qt2 (a b:List Fld):jt (a++b)=jt a++jt b:=by simp [jt]
theorem qt3 (f:Fld):jt [f]=zn (zj f):=by simp [jt]
theorem qrb {f:Fld} (h:ju f):(zn (zj f)).length≤5000:=by
 obtain⟨hk,hv⟩:=h
 have h1:=qpw (q5 f.2).tail
 have h2:=congrArg List.length (qhi _ f.2 (Nat.le_refl _))
 have h3:(jy f.1 ((q5 f.2).headD [])).length≤32+2+((q5 f.2).headD []).length:=by
  have:=hk.2.1
  unfold jy
  split <;> simp <;> omega
 have e:zj f=[jy f.1 ((q5 f.2).headD [])]++(q5 f.2).tail.map fun s=>[32]++vi s:=rfl
 rw [e,qan,qgs]
 simp only [List.length_append,List.length_cons,List.length_nil] at h2 ⊢
 omega
theorem qgo:∀ (xs:List Fld),(∀ f∈xs,ju f)→(jt xs).length≤5000 * xs.length
 | [],_=>by simp [jt]
 |f::r,h=>by
  have ih:=qgo r fun x hx=>h x (by simp [hx])
  have h1:=qrb (h f (by simp))
  have e:jt (f::r)=zn (zj f)++jt r:=by simp [jt]
  rw [e,List.length_append,List.length_cons]
  omega
def errF:List Fld→Int
 | []=>0
 |f::r=>if ko f≠0 then ko f else errF r
theorem qml:∀ (xs:List Fld),errF xs=0↔∀ f∈xs,ju f
 | []=>by simp [errF]
 |f::r=>by
  have ih:=qml r
  unfold errF
  by_cases h:ko f≠0
  ·rw [if_pos h]
   have hg:¬ ju f:=fun hg=>h ((qcn f).2 hg)
   simp [h,hg]
  ·have hg:=(qcn f).1 (Classical.not_not.1 h)
   rw [if_neg h,ih]
   simp [hg]
theorem q06:∀ {pre:List Fld} {f:Fld} {r:List Fld},(∀ x∈pre,ju x)→ko f≠0→errF (pre++f::r)=ko f
 | [],f,r,_,h=>by simp [errF,h]
 |x::pre,f,r,hp,h=>by
  have:=(qcn x).2 (hp x (by simp))
  simp only [List.cons_append,errF,this]
  rw [if_neg (by simp)]
  exact q06 (fun y hy=>hp y (by simp [hy])) h
theorem qxg (f:FldV) (st:List AObj) (hl:f.1.length<4294967281) (hv:f.2.length<1000000) (h:ko f=0):qn E 237 [fldA f] st fun r st'=>r = .tu [Ss (zj f),.v .nilIface]∧st'=st:=by
 have:=qok f st hl hv
 unfold qh2 at this
 rw [if_pos h,h] at this
 exact this
theorem qxh (f:FldV) (st:List AObj) (hl:f.1.length<4294967281) (hv:f.2.length<1000000) (h:ko f≠0):qn E 237 [fldA f] st fun r st'=>r = .tu [Ss [],.ifc 62 (Iv (ko f))]∧st'=st:=by
 have:=qok f st hl hv
 unfold qh2 at this
 rw [if_neg h,qj1 h] at this
 exact this
def qq0 (xs:List Fld):AV:=.tu [Sv (if errF xs=0 then jt xs else []),errN (errF xs)]
theorem q29 (xs:List Fld):Pure (qq0 xs):=qdq fun x hx=>by
 simp only [List.mem_cons,List.not_mem_nil,or_false] at hx
 rcases hx with rfl|rfl
 ·exact qx _
 ·exact qiv _
structure q18 (xs:List FldV):Prop where
 len:xs.length<1000000
 val:∀ f∈xs,f.1.length<4294967281∧f.2.length<1000000
set_option maxHeartbeats 2000000 in
theorem zc0 (xs:List FldV) (st:List AObj) (hx:q18 xs):qn E 167 [jj xs] st fun r st'=>r=qq0 xs∧st'=st:=by
 refine qu (q29 _) (qo Tryz.func167 rfl (Nat.le_of_ble_eq_true rfl) ?_)
 have hxl:=hx.len
 repeat' (first|(apply qjc;exact rfl)|apply qm|apply qt|apply qd|apply qc|apply qi|apply qe|(apply kl;(iterate 4 exact rfl)))
 refine qa7 xs (fun pre s=>(∀ f∈pre,ju f)∧∃ q,(q = .v (.pointer none)∨q = .bx (st.length+0) 0 0)∧StE [(4,.bx (st.length+0) 0 0),(11,jj xs),(12,Iv xs.length),(13,Iv pre.length)] st [bldO 0 q (jt pre) (st.length+1),.tip (jt pre).length 1 5] s) ⟨by simp,_,.inl rfl,qcs ⟨rfl,rfl,congrArg (fun n:Nat=>Iv (n:Int)) (List.length_map ..),rfl,trivial⟩ rfl⟩ ?_ ?_
 ·rintro _ ⟨hg,q,hq,t,ext,rfl⟩
  repeat' (first|apply qm|apply qd|apply qc|apply qe|(apply qq;(iterate 3 exact rfl))|(apply qb;exact rfl;apply vw;exact cAo)|apply z7|apply qs|(refine qf Tryz.call171 (qje st _ _ _ _ 0 1 0 _ _ rfl rfl rfl) ?_))
  refine qk rfl (j5 rfl) ⟨?_,xg _ _ _ _⟩
  unfold qq0
  have h0:=(qml xs).2 hg
  rw [if_pos h0,h0]
  rfl
 ·rintro pre f rest _ hr ⟨hg,q,hq,t,ext,rfl⟩
  have hlen:xs.length=pre.length+(rest.length+1):=by rw [hr];simp
  have hget:(xs.map fldA)[pre.length]? = some (fldA f):=by rw [hr];simp
  obtain⟨hf1,hf2⟩:=hx.val f (by rw [hr];simp)
  by_cases hc:ko f=0
  ·have hgf:=(qcn f).1 hc
   have hb1:=qgo pre hg
   have hb2:=qrb hgf
   repeat' (first|apply qm|apply qt|apply qd|apply qc|apply qi|apply qe|(apply q9;exact rfl;exact rfl)|(apply qq;(iterate 3 exact rfl))|(apply qb;exact rfl;apply ki;exact cAo)|(apply qb;exact rfl;apply cd_f;exact cRa)|(apply kl;(iterate 4 exact rfl))|(apply vt;exact rfl;exact rfl)|(apply kc;exact rfl;exact rfl)|(apply zg;(iterate 3 exact rfl))|(apply za;(iterate 5 exact rfl))|(apply jk;(iterate 11 exact rfl))|apply qw|(apply qf;exact Tryz.call237;exact qxg _ _ hf1 hf2 hc)|(apply kr (n:=pre.length);(iterate 5 exact rfl);exact hget))
   refine qa7 (zj f) (fun lp s=>∃ q,(q = .v (.pointer none)∨q = .bx (st.length+0) 0 0)∧StE [(4,.bx (st.length+0) 0 0),(11,jj xs),(12,Iv xs.length),(13,Iv pre.length),(25,Ss (zj f)),(26,Iv (zj f).length),(27,Iv lp.length)] st [bldO 0 q (jt pre++zn lp) (st.length+1),.tip (jt pre++zn lp).length 1 5] s) ⟨_,hq,qaf ⟨rfl,rfl,rfl,rfl,rfl,congrArg (fun n:Nat=>Iv (n:Int)) (List.length_map ..),rfl,trivial⟩ (by simp [zn])⟩ ?_ ?_
   ·rintro _ ⟨q,hq,t,ext,rfl⟩
    repeat' (first|apply qm|apply qd|apply qc|apply qi|(apply qq;(iterate 3 exact rfl))|(apply qb;exact rfl;apply vw;exact cAo)|(apply zt;exact rfl;exact rfl;exact zb (by omega) (by omega))|apply z7)
    refine⟨fun x hx=>?_,q,hq,qaf ⟨rfl,rfl,rfl,?_,trivial⟩ ?_⟩
    ·rcases List.mem_append.1 hx with hx|hx
     ·exact hg x hx
     ·simp at hx;subst hx;exact hgf
    ·rw [qdb pre f];rfl
    ·rw [qt2,qt3]
   ·rintro lp a lr _ hlr ⟨q,hq,t,ext,rfl⟩
    have hlen2:(zj f).length=lp.length+(lr.length+1):=by rw [hlr];simp
    have hget2:((zj f).map fun x=>Sv x)[lp.length]? = some (Sv a):=by rw [hlr];simp
    have hb3:(zn lp).length+(a.length+1)≤5000:=by
     rw [hlr,qan] at hb2
     have:a::lr=[a]++lr:=rfl
     rw [this,qan,qgs] at hb2
     simp only [List.length_append,List.length_cons,List.length_nil] at hb2
     omega
    have hct:=qjp lp
    repeat' (first|apply qm|apply qt|apply qd|apply qc|apply qi|apply qe|(apply qq;(iterate 3 exact rfl))|(apply qb;exact rfl;apply ki;exact cAo)|(apply jl;exact rfl;exact rfl;exact cOs)|(apply zg;(iterate 3 exact rfl))|apply qw|(apply kr (n:=lp.length);(iterate 5 exact rfl);exact hget2))
    refine qf Tryz.call168 (qkq st _ _ _ _ 0 1 0 _ _ _ rfl rfl ?_ ?_ rfl) ?_;(exact hq);(simp only [List.length_append,List.length_cons,List.length_nil];omega)
    repeat' (first|apply qd|apply qc|apply qi|(apply zt;exact rfl;exact rfl;exact zb (by omega) (by omega)))
    refine⟨_,.inr rfl,qaf ⟨rfl,rfl,rfl,rfl,rfl,rfl,?_,trivial⟩ ?_⟩
    ·rw [qdb lp a];rfl
    ·have e:jt pre++zn (lp++[a])=(jt pre++zn lp)++(a++[10]):=by rw [qan,qgs,List.append_assoc]
     rw [e];rfl
  ·skip
   repeat' (first|apply qm|apply qt|apply qd|apply qc|apply qi|apply qe|(apply q9;exact rfl;exact rfl)|(apply qq;(iterate 3 exact rfl))|(apply qb;exact rfl;apply ki;exact cAo)|(apply qb;exact rfl;apply cd_t;exact cRa)|(apply wz;exact rfl;exact rfl)|(apply kc;exact rfl;exact rfl)|(apply zg;(iterate 3 exact rfl))|(apply za;(iterate 5 exact rfl))|(apply jk;(iterate 11 exact rfl))|apply qw|apply qs|(apply qf;exact Tryz.call237;exact qxh _ _ hf1 hf2 hc)|(apply kr (n:=pre.length);(iterate 5 exact rfl);exact hget))
   refine qk rfl (j5 rfl) ⟨?_,xg _ _ _ _⟩
   unfold qq0
   have h0:errF xs=ko f:=by rw [hr];exact q06 hg hc
   rw [h0,if_neg hc,qj1 hc]
   rfl
theorem qug:∀ (n:Nat) (l:qa),l.length≤n→q5 (l++[10])=q5 l++[[]]
 |n,l,hn=>by
  by_cases h:10∈l
  ·have hne:l≠[]:=fun e=>by subst e;simp at h
   have hlt:=wi (c:=10) hne
   cases n with
   |zero=>omega
   |succ n=>
    have ih:=qug n (past 10 l) (by omega)
    have e:=vk h
    have e2:l++[10]=upto 10 l++10::(past 10 l++[10]):=(congrArg (· ++ [10]) e).trans (by simp)
    rw [x6 (by simp [h]),x6 h,e2,ve _ (xp 10 l),wx _ (xp 10 l),ih]
    rfl
  ·rw [x6 (by simp),x7 h,ve [] h,wx [] h]
   rw [x7 (by simp)]
   rfl
theorem qdo:∀ (n:Nat) (l:qa) (c:UInt8),l.length≤n→c≠10→q5 (l++[c])=(q5 l).set ((q5 l).length - 1) ((q5 l).getD ((q5 l).length - 1) []++[c])
 |n,l,c,hn,hc=>by
  by_cases h:10∈l
  ·have hne:l≠[]:=fun e=>by subst e;simp at h
   have hlt:=wi (c:=10) hne
   cases n with
   |zero=>omega
   |succ n=>
    have ih:=qdo n (past 10 l) c (by omega) hc
    have e:=vk h
    have e2:l++[c]=upto 10 l++10::(past 10 l++[c]):=(congrArg (· ++ [c]) e).trans (by simp)
    have hp:=qfh (past 10 l)
    have hpl:0<(q5 (past 10 l)).length:=List.length_pos_iff.2 hp
    rw [x6 (by simp [h]),x6 h,e2,ve _ (xp 10 l),wx _ (xp 10 l),ih]
    have e3:(upto 10 l::q5 (past 10 l)).length - 1=(q5 (past 10 l)).length - 1+1:=by simp;omega
    rw [e3,List.set_cons_succ]
    simp
  ·have h2:10∉l++[c]:=by simp [h,Ne.symm hc]
   rw [x7 h,x7 h2]
   simp
theorem q0a (l:qa):(q5 l).length≤l.length+1:=qbs _ l (Nat.le_refl _)
theorem q68 (xs:List qa):flat (xs.map fun x=>Sv x)=xs.map fun x=>Sv x:=by
 induction xs with
 |nil=>rfl
 |cons a xs ih=>rw [List.map_cons,qbd,ih];rfl
set_option maxHeartbeats 2000000 in
theorem q3y (l:qa) (st:List AObj) (hl:l.length<1000000):qn E 298 [Sv l] st fun r st'=>r=Ss (q5 l)∧st'=st:=by
 refine qu (qj8 _) (qo Tryz.func298 rfl (Nat.le_of_ble_eq_true rfl) ?_)
 have h0:Vec 1 9 (st.length+0) ((q5 []).map fun x=>Sv x) (.os (st.length+0) 0 0 1 1) (.cells 0 9 [Sv []]):=by
  rw [x7 (by simp)]
  exact .os 0 1 [] rfl (by simp [AV.cells]) (Nat.le_refl _) (by decide)
 repeat' (first|(apply qas;(iterate 6 exact rfl))|apply qm|apply qt|apply qd|apply qc|apply qe)
 refine qa7 l (fun pre s=>∃ v ob,Vec 1 9 (st.length+0) ((q5 pre).map fun x=>Sv x) v ob∧StE [(0,Sv l),(3,v),(4,Iv pre.length)] st [ob] s) ⟨_,_,h0,qcs ⟨rfl,rfl,rfl,trivial⟩ rfl⟩ ?_ ?_
 ·rintro _ ⟨v,ob,hV,t,ext,rfl⟩
  repeat' (first|apply qm|apply qd|apply qc|apply qi|apply qe|(apply qq;(iterate 3 exact rfl))|(apply qb;exact rfl;apply vw;exact cAo)|(apply zo;(iterate 3 exact rfl))|apply z7|apply qs)
  exact q7z (qzu 2 rfl rfl hV rfl) (qk rfl (qz rfl) ⟨rfl,xg _ _ _ _⟩)
 ·rintro pre c rest _ hr ⟨v,ob,hV,t,ext,rfl⟩
  have hlen:l.length=pre.length+(rest.length+1):=by rw [hr];simp
  have hget:l.getD pre.length 0=c:=by rw [hr];simp
  have hsp:(l.take (pre.length+1)).drop pre.length=[c]:=by rw [hr,show pre++c::rest=(pre++[c])++rest by simp,List.take_left' (by simp),List.drop_left' rfl]
  have hpc:=q0a pre
  rcases q7k hV with⟨h0,_⟩ | ⟨ver,cap,pad,rfl,rfl,hvl,hvw,hvle,hvm⟩
  ·exact absurd (List.map_eq_nil_iff.1 h0) (qfh pre)
  simp only [List.length_map] at hvle
  have hpos:0<(q5 pre).length:=List.length_pos_iff.2 (qfh pre)
  have hml:((q5 pre).map fun x=>Sv x).length=(q5 pre).length:=by simp
  have hpl:((q5 pre).getD ((q5 pre).length - 1) []).length≤pre.length:=by
   have hlt:(q5 pre).length - 1<(q5 pre).length:=by omega
   have e:(q5 pre).getD ((q5 pre).length - 1) []=(q5 pre)[(q5 pre).length - 1]:=by simp [List.getD,hlt]
   rw [e]
   exact qd6 pre _ (List.getElem_mem _)
  have hdl:((l.take (pre.length+1)).drop pre.length).length=1:=by rw [hsp];rfl
  have hld:(flat ((q5 pre).map fun x=>Sv x)++pad)[0+((q5 pre).length - 1) * 1]? = some (Sv ((q5 pre).getD ((q5 pre).length - 1) [])):=by
   rw [q68,Nat.zero_add,Nat.mul_one,List.getElem?_append_left (by simp;omega),List.getElem?_map]
   have:(q5 pre)[(q5 pre).length - 1]? = some ((q5 pre).getD ((q5 pre).length - 1) []):=by
    have:(q5 pre).length - 1<(q5 pre).length:=by omega
    simp [List.getD,this]
   rw [this]
   rfl
  repeat' (first|(apply qth;(iterate 5 exact rfl);kernel_rfl)|apply qm|apply qt|apply qd|apply qc|apply qi|(apply qq;(iterate 3 exact rfl))|(apply qb;exact rfl;apply ki;exact cAo)|(apply qb;exact rfl;apply cd_d <;> intro h)|(apply zo;(iterate 3 exact rfl))|(apply vu;(iterate 3 exact rfl);exact cAs)|(apply zx;(iterate 9 exact rfl))|apply qbv|(apply q0v;(iterate 4 exact rfl))|(apply q4r;exact rfl;exact rfl;exact zb (by omega) (by omega))|(apply q0x;(iterate 4 exact rfl);exact cAs;exact cAs)|(apply qik;exact rfl;exact rfl;exact cOs)|apply qao|(apply qwe;exact rfl;exact rfl;exact zb (by omega) (by omega))|apply qw|(apply qil (n:=(q5 pre).length - 1);(iterate 4 exact rfl);(simp;omega);(simp;omega))|(apply qn7;(iterate 4 exact rfl);exact hld))
  ·refine quz (xs:=(q5 pre).map fun x=>Sv x) (ys:=[Sv []]) (sz:=1) (bytes:=16) rfl rfl rfl hV rfl rfl rfl ⟨⟨_,_,rfl,rfl,rfl,rfl,rfl⟩⟩ rfl ?_ ?_ ?_
   ·simp [maxLen];omega
   ·simp;omega
   intro a' ob' hV'
   repeat' (first|apply qd|apply qc|apply qi|apply qe|(apply zt;exact rfl;exact rfl;exact zb (by omega) (by omega)))
   have hc:c=10:=by rw [hget] at h;exact (qa1 c).1 h
   refine⟨a',ob',?_,qaf ⟨rfl,rfl,?_,trivial⟩ rfl⟩
   ·rw [hc,qug _ pre (Nat.le_refl _),List.map_append]
    exact hV'
   ·rw [qdb pre c];rfl
  ·refine qqb (k:=0) (sz:=1) rfl rfl rfl rfl rfl rfl rfl rfl rfl (by show 0+((q5 pre).length - 1) * 1+1≤_;rw [hvl];omega) ?_
   repeat' (first|apply qd|apply qc|apply qi|apply qe|(apply zt;exact rfl;exact rfl;exact zb (by omega) (by omega)))
   have hc:c≠10:=fun e=>by rw [hget] at h;exact h ((qa1 c).2 e)
   refine⟨_,_,?_,qaf ⟨rfl,rfl,?_,trivial⟩ rfl⟩
   ·rw [qdo _ pre c (Nat.le_refl _) hc,← hsp]
    have:=zci (o:=st.length+0) (T:=9) (ver:=ver) (sz:=1) hvl hvw (by simpa using hvle) hvm (i:=(q5 pre).length - 1) (x:=Sv ((q5 pre).getD ((q5 pre).length - 1) []++(l.take (pre.length+1)).drop pre.length)) rfl (by simp;omega)
    rw [← List.map_set] at this
    exact this
   ·rw [qdb pre c];rfl
theorem qyo (f:FldV) (st:List AObj) (hl:f.1.length<4294967281):qn E 293 [fldA f] st fun r st'=>r=Iv (ko f)∧st'=st:=by
 refine qu (qx _) (qo Tryz.func293 rfl (Nat.le_of_ble_eq_true rfl) ?_)
 repeat' (first|apply qm|apply qd|apply qc|apply qe|(apply qq;(iterate 3 exact rfl))|(apply jd;exact rfl)|(apply qb;exact rfl;apply cd_n <;> intro h)|(apply qb;exact rfl;apply cd_d <;> intro h)|(apply zo;(iterate 3 exact rfl))|(apply qbm;(iterate 4 exact rfl))|(apply zm;(iterate 3 exact rfl))|(apply za;(iterate 5 exact rfl))|apply qw|apply qs|(apply qf;exact Tryz.call143;exact qyv _ _ hl))
 all_goals refine qk rfl (qz rfl) ⟨congrArg Iv (?_:_=ko f),_,rfl⟩
 ·exact (if_pos (by simp_all):ko f=5).symm
 ·exact ((if_neg (by simp_all)).trans (if_pos (by omega)):ko f=6).symm
 ·exact ((if_neg (by simp_all)).trans (if_neg (by omega)):ko f=0).symm
theorem q8y {s:qa} (h:10∉s):qy s=1↔qbn s:=by
 unfold qy qbn
 rw [if_neg h]
 by_cases hb:∀ c∈s,vv c
 ·rw [if_pos hb]
  exact⟨fun _=>hb,fun _=>rfl⟩
 ·rw [if_neg hb]
  refine⟨fun h=>?_,fun h=>absurd h hb⟩
  exfalso
  revert h
  repeat' split
  all_goals decide
theorem q9f (l p:qa) (r:List qa) (st:List AObj) (hl:l.length<1000000) (h:q5 l=p::r):qn E 298 [Sv l] st fun x st'=>x = .sl 1 (Sv p::r.map fun x=>Sv x) none∧st'=st:=by
 have:=q3y l st hl
 rw [h] at this
 exact this
theorem qz4 {f:Fld} {p:qa} {r:List qa} (h:q5 f.2=p::r):zj f=jy f.1 p::r.map fun s=>[32]++vi s:=by
 unfold zj
 rw [h]
 rfl
theorem qos (f:Fld):(zn (zj f)).length≤f.1.length+3 * f.2.length+3:=by
 have h1:=qpw (q5 f.2).tail
 have h2:=congrArg List.length (qhi _ f.2 (Nat.le_refl _))
 have h3:(jy f.1 ((q5 f.2).headD [])).length≤f.1.length+2+((q5 f.2).headD []).length:=by
  unfold jy
  split <;> simp <;> omega
 have e:zj f=[jy f.1 ((q5 f.2).headD [])]++(q5 f.2).tail.map fun s=>[32]++vi s:=rfl
 rw [e,qan,qgs]
 simp only [List.length_append,List.length_cons,List.length_nil] at h2 ⊢
 omega
theorem qq1:∀ (xs:List Fld),(∀ f∈xs,f.1.length<4294967281∧f.2.length<1000000)→(jt xs).length≤5000000000 * xs.length
 | [],_=>by simp [jt]
 |f::r,h=>by
  have ih:=qq1 r fun x hx=>h x (by simp [hx])
  have h1:=qos f
  have h2:=h f (by simp)
  have e:jt (f::r)=zn (zj f)++jt r:=by simp [jt]
  rw [e,List.length_append,List.length_cons]
  omega
end Go.Proofs.YtneejjefekdgjaaGreatDoor
namespace Go.Av
open Go Go.RowKit
@[reducible] def qri (K : Act → World → Prop) : Exit → Act → World → Prop
 | .normal,a,w=>K a w
 | _,_,_=>False
structure AZ (E:Env) (N:Nat) (ops:Array Oper) (fuel:Nat) (listed:Array Bool) (K:AS→Prop) (s:AS):Prop where
 run:∀ (B0:Nat) (w0:World) (G:Gh) (a:Act) (w:World),E.L B0 w0→Inv B0 w0 N G s a w→∀ K':Act→World→Prop,(∀ G' s' a' w',G.le G'→Inv B0 w0 N G' s' a' w'→K s'→K' a' w')→wpAnyIn (fw none) 0 E.P .any ops (qri K') fuel listed a w
structure AY (E:Env) (N:Nat) (o:Oper) (s:AS) (r:AV):Prop where
 run:∀ (B0:Nat) (w0:World) (G:Gh) (a:Act) (w:World),Inv B0 w0 N G s a w→∃ v,(∀ w',(execOp a.eval o).run E.P w' = .ok (.value v) w')∧(∀ w',o.about E.P w' a.eval=none)∧Rel G r v
section
variable {E : Env} {N : Nat} {ops : Array Oper} {K : AS → Prop} {s : AS} {fuel : Nat} {listed : Array Bool}
theorem qti {id:Nat} {Q:Exit→AS→Prop} {n:Nat} (hm:E.P.follows .mixedOrders=true) (hn:ops.size=n) (h:AZ E N ops n (Array.replicate n false) (Q .normal) s):AWp E none N (.region id ops true) Q s:=by
 subst hn
 refine⟨fun B0 w0 G a w hL hI=>?_⟩
 have hBl:Below w.heap.size w { w with drawn:=w.drawn+1 }:=⟨rfl,rfl,rfl,Nat.le_refl _,fun _ _=>rfl⟩
 have hI2:Inv B0 w0 N G s a { w with drawn:=w.drawn+1 }:=⟨hI.agree.fresh hBl,hI.defers,hI.size,hI.tmps⟩
 have:=h.run B0 w0 G a _ hL hI2 (fun a' w'=>∃ (G':Gh) (s':AS),G.le G'∧Inv B0 w0 N G' s' a' w'∧Q .normal s') fun G' s' a' w' hG hI' hk=>⟨G',s',hG,hI',hk⟩
 refine wpIn_mono (wpIn_region_any hm this) fun e a' w' hq=>?_
 cases e with
 |normal=>exact hq
 | _=>exact hq.elim
theorem y3 (hr:Region.ready .any ops listed=[]) (h:K s):AZ E N ops fuel listed K s:=
 ⟨fun B0 w0 G a w hL hI K' hK=>wpAnyIn_done hr (hK G s a w (.refl G) hI h) fuel⟩
theorem kp (i:Nat) {oi:Oper} {r:AV} (hi:ops[i]? = some oi) (hs:Region.noSelect ops=true) (hf:Region.free .any ops listed i=true) (hr:(Region.ready .any ops listed).contains i=true) (hg:oi.guard=none) (hy:AY E N oi s r)
  (h:AZ E N ops fuel (listed.setIfInBounds i true) K (s.put oi.dst r)):AZ E N ops (fuel+1) listed K s:=by
 refine⟨fun B0 w0 G a w hL hI K' hK=>?_⟩
 obtain⟨v,h1,h2,h3⟩:=hy.run B0 w0 G a w hI
 have hwn:Region.wanted oi (yielded ops a.tmps)=true:=by simp [Region.wanted,hg]
 refine wpAnyIn_take (v:=v) rfl hi hs hf hr (fun c a w hq=>hq.elim) ⟨.inl ⟨hwn,h1⟩,h2⟩ (h.run B0 w0 G _ w hL (hI.put (.refl G) hI.agree oi.dst h3) K' fun G' s' a' w' hG hI' hk=>hK G' s' a' w' hG hI' hk)
theorem qz6 {F:Fence} {n:Nat} {P:Program} {o:Oper} {a:Act} {w:World} {next X Y:Act→World→Prop} (h:o.wpIn F n P a w next (qri X)):o.wpIn F n P a w next (qri Y):=by
 unfold Oper.wpIn at *
 refine⟨h.1,?_⟩
 have h:=h.2
 generalize (o.semAt F.round a.eval).run P w=r at *
 cases r with
 |ok x w'=>
  cases x <;> simp only [Oper.uponIn] at h ⊢
  case value u=>exact h
  case skip=>exact h
  case defer d=>exact h
  case enter f args=>
   refine⟨h.1,CallsIn.mono h.2 fun e w'' he=>?_⟩
   cases e with
   |returned u=>exact he
   |panicked c=>exact he.elim
   |outgrown=>exact absurd he (by simp [LetsOut])
  case row row args=>exact h
  case round l f tmps assign body=>
   refine⟨h.1,RoundIn.mono h.2 fun e w'' he=>?_⟩
   cases e with
   |returned u=>exact he
   |panicked c=>exact he.elim
   |outgrown=>exact absurd he (by simp [LetsOut])
 |halt x w'=>
  cases x <;> simp only [Oper.uponIn] at h ⊢
  case panic u=>exact h.elim
def qvg (P:Nat→Prop):List Nat→Prop
 | []=>True
 |i::r=>P i∧qvg P r
theorem qtb {P:Nat→Prop}:∀ {l:List Nat},qvg P l→∀ i∈l,P i
 | [],_,_,h=>by simp at h
 |j::l,h,i,hi=>by
  rcases List.mem_cons.1 hi with rfl|hi
  ·exact h.1
  ·exact qtb h.2 i hi
theorem ja (rs:List Nat) (hr:Region.ready .any ops listed=rs) (hne:Nat.blt 0 rs.length=true)
  (h:qvg (fun i=>∃ o,ops[i]? = some o∧AOps E none N ops [o] (AZ E N ops fuel (listed.setIfInBounds i true) K) s) rs):AZ E N ops (fuel+1) listed K s:=by
 refine⟨fun B0 w0 G a w hL hI K' hK=>wpAnyIn_all hr (fun e=>by subst e;simp at hne) fun i hi=>?_⟩
 obtain⟨o,ho,h⟩:=qtb h i hi
 have hrun:=h.run B0 w0 G a w hL hI (qri fun a' w'=>wpAnyIn (fw none) 0 E.P .any ops (qri K') fuel (listed.setIfInBounds i true) a' w') fun G' s' a' w' hG hI' hk=>hk.run B0 w0 G' a' w' hL hI' K' fun G2 s2 a2 w2 hG2 hI2 hk2=>hK G2 s2 a2 w2 (hG.trans hG2) hI2 hk2
 unfold wpOpIn
 rw [ho]
 simp only [wpListIn] at hrun ⊢
 split
 ·rename_i hw
  rw [if_pos hw] at hrun
  exact qz6 hrun
 ·rename_i hw
  rw [if_neg hw] at hrun
  exact hrun
variable {d : Option Tmp} {T : TypeId} {p : String} {af : Array Edge}
theorem qvk {op:Op} {r:AV} (hnc:∀ c,op≠.call c) (h:∀ (G:Gh) (ρ : Operand→Value),(∀ x,Rel G (qj N s x) (ρ x))→∃ v,(∀ w',(execOp ρ ⟨d,op,T,p,af,none⟩).run E.P w' = .ok (.value v) w')∧Rel G r v):AY E N ⟨d,op,T,p,af,none⟩ s r:=
 ⟨fun B0 w0 G a w hI=>let ⟨v,h1,h2⟩:=h G a.eval hI.eval;⟨v,h1,fun w'=>by unfold Oper.about;cases op <;> first|rfl|exact absurd rfl (hnc _),h2⟩⟩
theorem zax {x:Operand}:AY E N ⟨d,.move x,T,p,af,none⟩ s (qj N s x):=qvk nofun fun G ρ hρ=>⟨ρ x,fun w'=>by simp [execOp],hρ x⟩
theorem yf {x:Operand}:AY E N ⟨d,.assign x,T,p,af,none⟩ s (qj N s x):=qvk nofun fun G ρ hρ=>⟨ρ x,fun w'=>by simp [execOp],hρ x⟩
theorem qe9 {t:TypeId} {x:Operand} {f off sz:Nat} {agg:Bool} {o ver q:Nat} (hx:qj N s x = .bx o ver q) (hf:y6 E.P t f=some (off,sz,agg)) (hsz:Nat.beq sz 0=false):AY E N ⟨d,.fieldAddr t x f,T,p,af,none⟩ s (.bx o ver (q+off)):=qvk nofun fun G ρ hρ=>by
 have he:=hρ x
 rw [hx] at he
 generalize hv : ρ x=v at he
 cases he with
 |bx _ _ _ b hn hv' hb=>
  have hs:sz≠0:=fun e=>by subst e;simp at hsz
  exact⟨_,fun w'=>by simp only [execOp,hv];simp [qcr hf hs],.bx o ver _ b hn hv' hb⟩
theorem qfa {t:TypeId} {x:Operand} {f off sz:Nat} {agg:Bool} {cs:List AV} (hx:qj N s x = .pp cs) (hf:y6 E.P t f=some (off,sz,agg)) (hsz:Nat.beq sz 0=false) (hle:Nat.ble off cs.length=true):AY E N ⟨d,.fieldAddr t x f,T,p,af,none⟩ s (.pp (cs.drop off)):=qvk nofun fun G ρ hρ=>by
 have he:=hρ x
 rw [hx] at he
 generalize hv : ρ x=v at he
 cases he with
 |pp _ b q pub hp hlen hrel=>
  have hs:sz≠0:=fun e=>by subst e;simp at hsz
  have ho:off≤cs.length:=Nat.le_of_ble_eq_true hle
  refine⟨.pointer (some ⟨b,q+off,none⟩),fun w'=>by simp only [execOp,hv];simp [qcr hf hs],?_⟩
  exact .pp _ b (q+off) pub hp (by simp;omega) fun i x y h1 h2=>hrel (off+i) x y (by simpa using h1) (by rw [← h2];congr 1;omega)
theorem y8 {t:TypeId} {parts:Array (Nat×Operand)} {zs cs:List AV} {pl:List (Nat×Nat)} (hz:qfo E.P t=some zs) (hp:qj7 E.P t=some pl) (hf:qbr (pl[·]?) zs (vb N s parts)=some cs):AY E N ⟨d,.build t parts,T,p,af,none⟩ s (.ag cs):=by
 refine⟨fun B0 w0 G a w hI=>?_⟩
 have key:∃ z:Value,(∀ w',(zeroValue t).run E.P w' = .ok z w')∧RelC G zs z.cells:=by
  unfold qfo at hz
  split at hz
  ·rename_i i hi
   cases hzr:i.zero with
   |none=>rw [hzr] at hz;simp at hz
   |some z=>
    rw [hzr] at hz
    simp only [Option.map_some,Option.some.injEq] at hz
    subst hz
    refine⟨z,fun w'=>by simp [zeroValue,typeInfo,hi,hzr],by simp,fun i x y hx hy=>?_⟩
    rw [List.getElem?_map] at hx
    simp only [Array.getElem?_toList,hy,Option.map_some,Option.some.injEq] at hx
    subst hx
    exact .v y
  ·simp at hz
 obtain⟨z,hrun,hr⟩:=key
 obtain⟨c',h1,h2⟩:=qfw (pl[·]?) (vb N s parts) (parts.toList.map fun x=>(x.1,a.eval x.2)) zs z.cells cs (by simp [vb]) (qgp hI parts) hr hf
 unfold qj7 at hp
 split at hp
 ·rename_i fs hu
  refine⟨.agg c',fun w'=>?_,fun w'=>rfl,.ag _ _ h2.1 h2.2⟩
  generalize a.eval = ρ at h1
  simp [execOp,Instr.build,run_underlying hu,hrun,Array.mapM_eq_mapM_toList,run_places w' _ _ hp,h1]
 ·simp at hp
end
theorem zaw {E:Env} {rd:Option Nat} {N:Nat} {c:Code} {Q:Exit→AS→Prop} {s:AS} (I:AS→Prop) (h:AWp E rd N c (only I) s) (hk:∀ s',I s'→Q .normal s'):AWp E rd N c Q s:=h.mono fun e s' h=>by
 cases e <;> first|exact hk _ h|exact h.elim
end Go.Av
namespace Go.Proofs.YtneejjefekdgjaaGreatDoor
open Go Go.Av Go.RowKit Go.Proofs Go.Pl
theorem qi4 {l:qa}:qy l=4↔10∉l∧58∈l∧yq (z2 l):=by
 unfold qy
 by_cases h10:10∈l
 ·simp [h10]
 ·rw [if_neg h10]
  constructor
  ·intro h
   split at h
   ·simp at h
   ·split at h
    ·simp at h
    ·split at h
     ·simp at h
     ·split at h
      ·rename_i hk;exact⟨h10,hk.1,hk.2⟩
      ·simp at h
  ·rintro⟨_,h58,hk⟩
   obtain⟨c,hc,hb,h35⟩:=qi3 hk
   have hh:l.head? = some c:=by
    cases l with
    |nil=>simp at h58
    |cons a r=>
     unfold z2 at hc
     rw [List.takeWhile_cons] at hc
     split at hc
     ·simpa using hc
     ·simp at hc
   have hmem:c∈l:=List.mem_of_head? hh
   rw [if_neg (fun h'=>hb (h' c hmem)),if_neg (by rw [hh];simpa using h35),if_neg (fun ⟨d,hd,hd'⟩=>by rw [hh] at hd;cases hd;exact hb hd'),if_pos ⟨h58,hk⟩]
theorem q3h (l:qa) (st:List AObj) (hl:l.length<4294967281) (h:qy l=4):qn E 272 [Sv l] st fun r st'=>r = .tu [Sv (z2 l),Sv (kf l),Bv true]∧st'=st:=by
 refine qu (qbg _ _ _) (qo Tryz.func272 rfl (Nat.le_of_ble_eq_true rfl) ?_)
 have hc:Lib.cut l [58]=(z2 l,kf l,true):=by rw [qts,if_pos (qi4.1 h).2.1]
 repeat' (first|apply qm|apply qd|apply qc|apply qi|apply qe|(apply q9;exact rfl;exact rfl)|(apply qq;(iterate 3 exact rfl))|(apply qb;exact rfl;apply vw;exact cAo)|apply qw|apply qs|(apply qf;exact Tryz.call122;exact qj4 _ _ hl)|(apply qf;exact Tryz.call72;exact qqp _ _ _ hl))
 refine qk rfl (xk rfl) ⟨qze (?_:_=_),_,rfl⟩
 rw [hc]
theorem qz3 (l:qa) (st:List AObj) (hl:l.length<4294967281) (h:qy l≠4):qn E 272 [Sv l] st fun r st'=>r = .tu [Sv [],Sv [],Bv false]∧st'=st:=by
 refine qu (qbg _ _ _) (qo Tryz.func272 rfl (Nat.le_of_ble_eq_true rfl) ?_)
 repeat' (first|apply qm|apply qd|apply qc|apply qi|apply qe|(apply qq;(iterate 3 exact rfl))|(apply qb;exact rfl;apply ki;exact cAo)|apply qs|(apply qf;exact Tryz.call122;exact qj4 _ _ hl))
 exact qk rfl (xk rfl) ⟨rfl,_,rfl⟩
theorem zat {fn:Func} {s:AS} {t u:Tmp} {Ta:TypeId} {o1 v1 f1 sz1:Nat} {agg1:Bool} {T1:TypeId} {cs1:List AV} {r1:AV} (hr:fn.results = #[.cell t Ta,.tmp u]) (hx1:qj fn.ntmps s (.tmp t) = .bx o1 v1 f1) (ho1:s.st[o1]? = some (.cells v1 T1 cs1)) (ht1:tyOf E.P Ta=some (sz1,agg1)) (hl1:jq sz1 agg1 f1 cs1=some r1) :
  ARes E fn s (.tu [r1,qj fn.ntmps s (.tmp u)]):=by
 refine⟨fun B0 w0 G a w hL hI=>?_⟩
 obtain⟨b,v,h1,h2,h3⟩:=qga hI hx1 ho1 ht1 hl1
 have hu:=hI.rd u
 refine⟨.tuple #[v,a.tmps.getD u undef],?_,qey h3 hu⟩
 simp only [Act.eval,Array.getD_eq_getD_getElem?] at h1
 simp [results,hr,h1,asAddr,h2]
def qf1 (ls:List qa):AV:=.tu [fldA (zp ls).1,errN (zp ls).2]
theorem qzf (ls:List qa):Pure (qf1 ls):=qdq fun x hx=>by
 simp only [List.mem_cons,List.not_mem_nil,or_false] at hx
 rcases hx with rfl|rfl
 ·exact qj9 fun x hx=>by
   simp only [List.mem_cons,List.not_mem_nil,or_false] at hx
   rcases hx with rfl|rfl <;> exact qx _
 ·exact qiv _
theorem qn8 {fn:Func} {s:AS} {t u:Tmp} {Ta:TypeId} {st loc ext new:List AObj} {k1 v1 f1 sz1:Nat} {agg1:Bool} {T1:TypeId} {cs1:List AV} {r1:AV} (hr:fn.results = #[.cell t Ta,.tmp u]) (hs:s.st=((st++loc)++ext)++new) (hx1:qj fn.ntmps s (.tmp t) = .bx (st.length+k1) v1 f1) (ho1:loc[k1]? = some (.cells v1 T1 cs1)) (ht1:tyOf E.P Ta=some (sz1,agg1)) (hl1:jq sz1 agg1 f1 cs1=some r1) :
  ARes E fn s (.tu [r1,qj fn.ntmps s (.tmp u)]):=zat hr hx1 (by rw [hs];exact qap ho1) ht1 hl1
structure LsB (ls:List qa):Prop where
 len:ls.length<1000000
 val:∀ s∈ls,s.length<1000000
theorem qpv:∀ (r:List qa),(∀ s∈r,s.length<1000000)→(r.flatMap fun s=>[10]++v6 46 (s.drop 1)).length≤1000001 * r.length
 | [],_=>by simp
 |a::r,h=>by
  have ih:=qpv r fun s hs=>h s (by simp [hs])
  have ha:=h a (by simp)
  have ht:(v6 46 (a.drop 1)).length≤a.length:=by unfold v6;split <;> simp <;> omega
  simp only [List.flatMap_cons,List.length_append,List.length_cons,List.length_nil]
  omega
theorem q5z (v:qa) (r:List qa):Lib.join (v::r.map fun s=>v6 46 (s.drop 1)) [10]=v++r.flatMap fun s=>[10]++v6 46 (s.drop 1):=by
 rw [Lib.join_cons]
 unfold Lib.joinTail
 rw [List.map_map,List.flatMap_def]
 rfl
theorem q1e (xs:List qa) (tip:Option Nat) (sep v:qa) (st:List AObj) (h:Lib.join xs sep=v) (hN:xs.length≤140737488355328) (hl:v.length≤140737488355328):qn E 127 [.sl 1 (xs.map fun x=>Sv x) tip,Sv sep] st fun r st'=>r=Sv v∧st'=st:=by
 subst h
 exact q5y xs tip sep st hN hl
theorem q6o (l:qa) (st:List AObj) (hl:l.length<4294967281) (h:qy l=4):qn E 221 [Sv l] st fun r st'=>r = .tu [Sv (z2 l),Sv (kf l),Bv true]∧st'=st:=by
 have:=qyq l st hl
 have e:qd9 l=(z2 l,kf l,true):=if_pos (qi4.1 h)
 rw [e] at this
 exact this
theorem qj5 {s:qa} (h:qy s=3):2≤s.length∧10∉s:=by
 have h10:10∉s:=fun h'=>by unfold qy at h;rw [if_pos h'] at h;simp at h
 refine⟨?_,h10⟩
 unfold qy at h
 rw [if_neg h10] at h
 split at h
 ·simp at h
 ·rename_i hb
  split at h
  ·simp at h
  ·split at h
   ·rename_i hbl
    obtain⟨c,hc,hcb⟩:=hbl
    match s,hc with
    | [a],hc=>
     simp at hc
     subst hc
     exact absurd (by simpa using hcb) hb
    |a::b::r,_=>simp
   ·split at h <;> simp at h
def qbi (ls:List qa):AV:=.tu [fldA (zp ls).1,Iv (zp ls).2]
theorem qrt (ls:List qa):Pure (qbi ls):=qdq fun x hx=>by
 simp only [List.mem_cons,List.not_mem_nil,or_false] at hx
 rcases hx with rfl|rfl
 ·exact qj9 fun x hx=>by
   simp only [List.mem_cons,List.not_mem_nil,or_false] at hx
   rcases hx with rfl|rfl <;> exact qx _
 ·exact qx _
def accU (l:qa) (pre:List qa):qa:=v6 32 (kf l)++pre.flatMap fun s=>[10]++v6 46 (s.drop 1)
theorem q4i (l:qa) (pre:List qa) (a:qa):accU l (pre++[a])=(accU l pre++[10])++v6 46 (a.drop 1):=by
 unfold accU
 rw [List.flatMap_append]
 simp
theorem q7r (l:qa) (pre:List qa) (h:∀ s∈pre,s.length<1000000):(accU l pre).length≤l.length+1000001 * pre.length:=by
 have htr:(v6 32 (kf l)).length≤l.length:=by unfold v6 kf;split <;> simp <;> omega
 have:=qpv pre h
 unfold accU
 rw [List.length_append]
 omega
theorem qvt (c:UInt8):((c.toNat:Nat):Int)=46↔c=46:=u8i c 46 (by omega)
theorem qk7 {α : Type} {P : α→Prop} {pre:List α} {a : α} (h:∀ x∈pre,P x) (ha:P a):∀ x∈pre++[a],P x:=fun x hx=>by
 rcases List.mem_append.1 hx with hx|hx
 ·exact h x hx
 ·simp at hx;subst hx;exact ha
end Go.Proofs.YtneejjefekdgjaaGreatDoor
namespace Go.Pl
open Go Go.Proofs
structure LnV where
 no:Nat
 at':Nat
 text:qa
 ended : Bool
def ku (k a:Nat) (l:qa):List LnV:=if h:l=[] then [] else⟨k,a,upto 10 l,decide (10∈l)⟩::ku (k+1) (a+(upto 10 l).length+1) (past 10 l)
 termination_by l.length
 decreasing_by exact wi h
def lns (l:qa):List LnV:=ku 0 0 l
theorem y7 (k a:Nat):ku k a []=[]:=by unfold ku;simp
theorem y9 {k a:Nat} {l:qa} (h:l≠[]):ku k a l=⟨k,a,upto 10 l,decide (10∈l)⟩::ku (k+1) (a+(upto 10 l).length+1) (past 10 l):=by
 conv=>lhs;unfold ku
 rw [dif_neg h]
def whole (l:qa):Prop:=l=[]∨l.getLast? = some 10
theorem q4c {l:qa} (h:whole l) (hne:l≠[]):10∈l∧whole (past 10 l):=by
 have hl:l.getLast? = some 10:=h.resolve_left hne
 have h10:10∈l:=List.mem_of_getLast? hl
 refine⟨h10,?_⟩
 by_cases hp:past 10 l=[]
 ·exact .inl hp
 ·refine .inr ?_
  have e:=vk h10
  rw [e] at hl
  rw [List.getLast?_append,List.getLast?_cons] at hl
  cases hg:(past 10 l).getLast? with
  |none=>exact absurd (List.getLast?_eq_none_iff.1 hg) hp
  |some c=>rw [hg] at hl;simpa using hl
theorem qsp:∀ (n:Nat) (d x:qa) (k a:Nat),d.length≤n→whole d→ku k a (d++x)=ku k a d++ku (k+(ku k a d).length) (a+d.length) x
 |n,d,x,k,a,hn,hw=>by
  by_cases hd:d=[]
  ·subst hd
   simp [y7]
  ·obtain⟨h10,hw'⟩:=q4c hw hd
   have e:=vk h10
   have hlt:=wi (c:=10) hd
   cases n with
   |zero=>omega
   |succ n=>
    have e2:d++x=upto 10 d++10::(past 10 d++x):=(congrArg (· ++ x) e).trans (by simp)
    have hu:upto 10 (d++x)=upto 10 d:=by rw [e2];exact ve _ (xp 10 d)
    have hp:past 10 (d++x)=past 10 d++x:=by rw [e2];exact wx _ (xp 10 d)
    have hdl:d.length=(upto 10 d).length+1+(past 10 d).length:=by
     have:=congrArg List.length e
     simp at this
     omega
    rw [y9 (l:=d++x) (by simp [hd]),y9 hd,hu,hp,qsp n (past 10 d) x _ _ (by omega) hw']
    have h1:10∈d++x:=by simp [h10]
    simp only [h1,h10,List.cons_append,List.length_cons]
    congr 2
    have e3:∀ m:Nat,k+1+m=k+(m+1):=fun m=>by omega
    rw [e3]
    congr 1
    omega
theorem zbr {c:qa} (k a:Nat) (h:10∉c):ku k a (c++[10])=[⟨k,a,c,true⟩]:=by
 rw [y9 (by simp),ve [] h,wx [] h,y7]
 simp
theorem q81 {c:qa} (k a:Nat) (h:10∉c) (hne:c≠[]):ku k a c=[⟨k,a,c,false⟩]:=by
 rw [y9 hne,wm h]
 have:past 10 c=[]:=by
  unfold past
  rw [wm h]
  simp
 rw [this,y7]
 simp [h]
theorem qb7:∀ (n:Nat) (l:qa) (k a:Nat),l.length≤n→(ku k a l).length≤l.length
 |n,l,k,a,hn=>by
  by_cases h:l=[]
  ·subst h;simp [y7]
  ·have hlt:=wi (c:=10) h
   cases n with
   |zero=>omega
   |succ n=>
    rw [y9 h,List.length_cons]
    have:=qb7 n (past 10 l) (k+1) (a+(upto 10 l).length+1) (by omega)
    omega
theorem qub:∀ (n:Nat) (l:qa) (k a:Nat),l.length≤n→(ku k a l).map (fun x=>(x.text,x.ended))=zr l
 |n,l,k,a,hn=>by
  by_cases h:l=[]
  ·subst h;simp [y7,wh]
  ·have hlt:=wi (c:=10) h
   cases n with
   |zero=>omega
   |succ n=>rw [y9 h,wc h,List.map_cons,qub n _ _ _ (by omega)]
end Go.Pl
namespace Go.Proofs.YtneejjefekdgjaaGreatDoor
open Go Go.Av Go.RowKit Go.Proofs Go.Pl
@[reducible] def lnA (x : LnV) : AV := .ag [Iv x.no, Iv x.at', Sv x.text, Bv x.ended]
@[reducible] def lnsA (xs : List LnV) : AV := .sl 4 (xs.map lnA) none
theorem q9l (xs:List LnV):Pure (lnsA xs):=qew fun x hx=>by
 simp only [List.mem_map] at hx
 obtain⟨f,_,rfl⟩:=hx
 intro y hy
 simp [AV.cells] at hy
 rcases hy with rfl|rfl|rfl|rfl <;> exact qx _
set_option maxHeartbeats 4000000 in
theorem qhl (l:qa) (st:List AObj) (hl:l.length<100000000):qn E 137 [Sv l] st fun r st'=>r=lnsA (lns l)∧st'=st:=by
 refine qu (q9l _) (qo Tryz.func137 rfl (Nat.le_of_ble_eq_true rfl) ?_)
 repeat' (first|apply qm|apply qt|apply qd|apply qc|apply qe)
 refine q2l (i:=3) (sz:=4) (T':=219) rfl ?_
 refine qa7 l (fun pre s=>∃ d c,pre=d++c∧whole d∧10∉c∧StE [(0,Sv l),(3,.sl 4 ((lns d).map lnA) (some (st.length+0))),(4,Iv d.length),(5,Iv pre.length)] st [.tip (lns d).length 4 219] s) ⟨[],[],rfl,.inl rfl,by simp,qcs ⟨rfl,?_,rfl,rfl,trivial⟩ ?_⟩ ?_ ?_
 ·rw [show lns []=[] from y7 0 0];simp;rfl
 ·rw [show lns []=[] from y7 0 0];show (st++[])++[AObj.tip 0 4 _]=_;simp
 ·rintro _ ⟨d,c,hdc,hw,hc,t,ext,rfl⟩
  have hll:l.length=d.length+c.length:=by rw [hdc];simp
  have hcnt:=qb7 _ d 0 0 (Nat.le_refl _)
  have hcnt':(lns d).length≤d.length:=hcnt
  have hml:((lns d).map lnA).length=(lns d).length:=by simp
  have happ:lns l=lns d++ku (lns d).length d.length c:=by
   unfold lns
   rw [hdc,qsp _ d c 0 0 (Nat.le_refl _) hw]
   simp
  have hfrom:l.drop d.length=c:=by rw [hdc];simp
  repeat' (first|apply qm|apply qd|apply qc|apply qi|apply qe|(apply qq;(iterate 3 exact rfl))|(apply qb;exact rfl;apply vw;exact cAo)|(apply qb;exact rfl;apply cd_d <;> intro h)|(apply zo;(iterate 3 exact rfl))|(apply kl;(iterate 4 exact rfl))|(apply qgk;(iterate 3 exact rfl);exact cAs)|(apply xi;(iterate 3 exact rfl))|(apply zx;(iterate 9 exact rfl))|apply qw|apply z7|apply qs|(apply qe5 (n:=(lns d).length) (m:=1) (sz:=4) (bytes:=40);(iterate 4 exact rfl);exact hml;exact rfl;exact rfl;exact⟨⟨_,_,rfl,rfl,rfl,rfl,rfl⟩⟩;exact rfl;exact rfl;(unfold maxLen;omega);omega;exact rfl))
  ·have hne:c≠[]:=fun e=>by subst e;simp at hll;omega
   have e:AV.sl 4 ((lns d).map lnA++[AV.ag [Iv ((lns d).map lnA).length,Iv d.length,Sv (l.drop d.length),Bv false]]) none=AV.sl 4 ((lns l).map lnA) none:=by
    rw [happ,q81 _ _ hc hne,hml,hfrom,List.map_append]
    rfl
   exact qk rfl (qqg rfl rfl) ⟨e,xg _ _ _ _⟩
  ·have hce:c=[]:=List.length_eq_zero_iff.1 (by omega)
   refine qk rfl (qqg rfl rfl) ⟨?_,xg _ _ _ _⟩
   rw [happ,hce,y7,List.append_nil]
 ·rintro pre a rest _ hr ⟨d,c,hdc,hw,hc,t,ext,rfl⟩
  have hlen:l.length=pre.length+(rest.length+1):=by rw [hr];simp
  have hpl:pre.length=d.length+c.length:=by rw [hdc];simp
  have hget:l.getD pre.length 0=a:=by rw [hr];simp
  have hcnt:=qb7 _ d 0 0 (Nat.le_refl _)
  have hcnt':(lns d).length≤d.length:=hcnt
  have hml:((lns d).map lnA).length=(lns d).length:=by simp
  have hsp:(l.take pre.length).drop d.length=c:=by rw [hr,List.take_left' rfl,hdc,List.drop_left' rfl]
  repeat' (first|apply qm|apply qt|apply qd|apply qc|apply qi|apply qe|(apply qq;(iterate 3 exact rfl))|(apply qb;exact rfl;apply ki;exact cAo)|(apply qb;exact rfl;apply cd_d <;> intro h)|(apply zo;(iterate 3 exact rfl))|(apply kl;(iterate 4 exact rfl))|(apply zt;exact rfl;exact rfl;exact zb (by omega) (by omega))|(apply vu;(iterate 3 exact rfl);exact cAs)|(apply qgl;(iterate 4 exact rfl);exact cAs;exact cAs)|(apply xi;(iterate 3 exact rfl))|(apply zx;(iterate 9 exact rfl))|apply qw|(apply qe5 (n:=(lns d).length) (m:=1) (sz:=4) (bytes:=40);(iterate 4 exact rfl);exact hml;exact rfl;exact rfl;exact⟨⟨_,_,rfl,rfl,rfl,rfl,rfl⟩⟩;exact rfl;exact rfl;(unfold maxLen;omega);omega;exact rfl))
  ·have ha:a=10:=by have h:=(qa1 _).1 (by assumption:((l.getD pre.length 0).toNat:Int)=10);rw [hget] at h;exact h
   have happ:lns (d++(c++[10]))=lns d++[⟨(lns d).length,d.length,c,true⟩]:=by
    unfold lns
    rw [qsp _ d (c++[10]) 0 0 (Nat.le_refl _) hw,zbr _ _ hc]
    simp
   refine⟨d++(c++[10]),[],by rw [ha,hdc];simp,.inr (by simp),by simp,qaf ⟨rfl,?_,?_,qeq pre a,trivial⟩ ?_⟩
   ·have e:AV.sl 4 ((lns d).map lnA++[AV.ag [Iv ((lns d).map lnA).length,Iv d.length,Sv ((l.take pre.length).drop d.length),Bv true]]) (some (st.length+0))=AV.sl 4 ((lns (d++(c++[10]))).map lnA) (some (st.length+0)):=by
     rw [happ,hml,hsp,List.map_append]
     rfl
    exact e
   ·have e:Iv ((pre.length:Int)+1)=Iv ((d++(c++[10])).length:Nat):=by
     have:(d++(c++[10])).length=pre.length+1:=by simp;omega
     rw [this]
     rfl
    exact e
   ·rw [happ,qdb];rfl
  ·have ha:a≠10:=fun e=>absurd (by rw [hget];exact (qa1 _).2 e:((l.getD pre.length 0).toNat:Int)=10) (by assumption)
   exact⟨d,c++[a],by rw [hdc];simp,hw,by simp [hc,Ne.symm ha],qaf ⟨rfl,rfl,rfl,qeq pre a,trivial⟩ rfl⟩
end Go.Proofs.YtneejjefekdgjaaGreatDoor
namespace Go.Pl
open Go Go.Proofs
def indF (by':qa) (ls:List (qa×Bool)):qa:=ls.flatMap fun x=>by'++x.1++wu x.2
def yn (by' l:qa):qa:=indF by' (zr l)
theorem qky (by':qa) (a b:List (qa×Bool)):indF by' (a++b)=indF by' a++indF by' b:=by simp [indF]
theorem qk0 (by':qa) (x:qa×Bool):indF by' [x]=by'++x.1++wu x.2:=by simp [indF]
def lsum (ls:List (qa×Bool)):Nat:=(ls.map fun x=>x.1.length+(wu x.2).length).sum
theorem qer:∀ (n:Nat) (l:qa),l.length≤n→lsum (zr l)=l.length∧(zr l).length≤l.length
 |n,l,hn=>by
  by_cases h:l=[]
  ·subst h;simp [wh,lsum]
  ·have hlt:=wi (c:=10) h
   cases n with
   |zero=>omega
   |succ n=>
    obtain⟨h1,h2⟩:=qer n (past 10 l) (by omega)
    rw [wc h]
    unfold lsum at h1 ⊢
    simp only [List.map_cons,List.sum_cons,List.length_cons]
    rw [h1]
    have hp:=kq 10 l
    have hu:=kv 10 l
    by_cases h10:10∈l
    ·have:=qdv h10
     simp [h10,wu]
     omega
    ·have hu2:(upto 10 l).length=l.length:=by rw [wm h10]
     have hpos:=List.length_pos_iff.2 h
     simp [h10,wu]
     omega
theorem qkz (by':qa):∀ (ls:List (qa×Bool)),(indF by' ls).length=lsum ls+by'.length * ls.length
 | []=>by simp [indF,lsum]
 |x::r=>by
  have ih:=qkz by' r
  simp only [indF,lsum,List.flatMap_cons,List.length_append,List.map_cons,List.sum_cons,List.length_cons] at ih ⊢
  rw [ih,Nat.mul_add]
  omega
theorem qxu (a b:List (qa×Bool)):lsum (a++b)=lsum a+lsum b:=by simp [lsum]
end Go.Pl
namespace Go.Proofs.YtneejjefekdgjaaGreatDoor
open Go Go.Av Go.RowKit Go.Proofs Go.Pl
theorem q64 (text:List UInt8) (st loc:List AObj) (n:Nat) (hn:loc.length=n):qn E 67 [Sv text] (st++loc) fun r st1=>r = .fn (.func 121) [] [.bx (st.length+n) 0 0]∧st1=st++(loc++[.cells 0 9 [Sv text]]):=
 qsz text (st++loc) _ (st.length+n) (by simp [hn]) (by rw [List.append_assoc])
theorem q5x (b sep:qa) (st:List AObj) (hl:b.length≤140737488355328):qn E 127 [.sl 1 [Sv b] none,Sv sep] st fun r st'=>r=Sv b∧st'=st:=
 q1e [b] none sep b st (by simp [Lib.join,List.intercalate]) (by simp) hl
theorem zc4 {st a b ext:List AObj} {m:Nat} (h:((st++a)++ext).length=m) (e:b.length=a.length):((st++b)++ext).length=m:=by
 simp only [List.length_append] at h ⊢
 omega
set_option maxHeartbeats 2000000 in
theorem q8w (text by':qa) (st:List AObj) (hl:text.length<100000000) (hb:by'.length<1000):qn E 170 [Sv text,.sl 1 [Sv by'] none] st fun r st'=>r=Sv (yn by' text)∧st'=st:=by
 refine qu (qx _) (qo Tryz.func170 rfl (Nat.le_of_ble_eq_true rfl) ?_)
 obtain⟨hsum,hcnt⟩:=qer _ text (Nat.le_refl _)
 repeat' (first|(apply qjc;exact rfl)|apply qm|apply qt|apply qd|apply qc|apply qi|apply qe|(apply kc;exact rfl;exact rfl)|(apply jk;(iterate 11 exact rfl))|(apply qf;exact Tryz.call127;exact q5x _ _ _ (by omega))|(refine qf Tryz.call67 (q64 _ _ _ _ rfl) ?_))
 refine qsg (st:=st) text rfl rfl (by omega) (fun k rest l=>∃ q don,(q = .v (.pointer none)∨q = .bx (st.length+0) 0 0)∧zr text=don++zr rest∧l=[bldO 0 q (indF by' don) (st.length+1),.tip (indF by' don).length 1 5,.cells 0 9 [Sv by'],.cells 0 9 [Sv text]]) (fun _ _=>False)
  ⟨_,[],.inl rfl,rfl,rfl⟩ (fun k rest l ⟨q,don,_,_,e⟩=>by subst e;exact⟨rfl,rfl⟩) (fun _ _ h=>h.elim) ?_ ?_ (fun _ _ _ h=>h.elim)
 ·rintro F own rd k rest _ ext m hF ⟨q,don,hq,hd,rfl⟩ hne hle hm1 hm2
  have hmem:zr rest=(upto 10 rest,decide (10∈rest))::zr (past 10 rest):=wc hne
  have hu:=kv 10 rest
  have hlen:=qkz by' (don++[(upto 10 rest,decide (10∈rest))])
  have he:zr text=(don++[(upto 10 rest,decide (10∈rest))])++zr (past 10 rest):=by rw [hd,hmem];simp
  have hs2:lsum (don++[(upto 10 rest,decide (10∈rest))])+lsum (zr (past 10 rest))=text.length:=by rw [← qxu,← he];exact hsum
  have hc2:(don++[(upto 10 rest,decide (10∈rest))]).length+(zr (past 10 rest)).length≤text.length:=by rw [← List.length_append,← he];exact hcnt
  have hm:by'.length * (don++[(upto 10 rest,decide (10∈rest))]).length≤1000 * 100000000:=Nat.mul_le_mul (by omega) (by omega)
  rw [qky,qk0] at hlen
  simp only [List.length_append] at hlen hm hc2
  repeat' (first|(apply qzi;exact rfl;assumption;exact rfl)|(apply qa4;exact rfl;assumption;(iterate 10 exact rfl))|apply qd|apply qc)
  refine⟨_,rfl,rfl,?_⟩
  repeat' (first|apply qm|apply qt|apply qd|apply qc|(apply qb;exact rfl;apply cd_d <;> intro h)|(apply jl;exact rfl;exact rfl;exact cOs)|(apply zm;(iterate 3 exact rfl))|(apply zz;(iterate 5 exact rfl))|apply qw|(apply qbu;exact rfl;exact zc4 hm2 rfl;(iterate 4 exact rfl))|(refine qf Tryz.call168 (qkq st _ _ _ _ 0 1 0 _ _ _ rfl rfl ?_ ?_ rfl) ?_;(first|exact hq|exact .inr rfl);(simp only [List.length_append,List.length_cons,List.length_nil];omega)))
  all_goals
   have hx:indF by' (don++[(upto 10 rest,decide (10∈rest))])=(indF by' don++(by'++upto 10 rest))++wu (decide (10∈rest)):=by
    rw [qky,qk0];simp
   refine⟨[bldO 0 (.bx (st.length+0) 0 0) (indF by' (don++[(upto 10 rest,decide (10∈rest))])) (st.length+1),.tip (indF by' (don++[(upto 10 rest,decide (10∈rest))])).length 1 5,.cells 0 9 [Sv by'],.cells 0 9 [Sv text]],ext,[.cells 0 145 (qdk k text rest).cells],?_,_,_,.inr rfl,he,rfl⟩
  ·have h10:10∈rest:=by simp_all
   rw [hx,show wu (decide (10∈rest))=[10] by simp [h10,wu]]
   rfl
  ·have h10:10∉rest:=by simp_all
   have hx2:indF by' (don++[(upto 10 rest,decide (10∈rest))])=indF by' don++(by'++upto 10 rest):=by
    rw [hx];simp [h10,wu]
   rw [hx2]
   rfl
 ·rintro k _ ext ⟨q,don,hq,hd,rfl⟩
  repeat' (first|apply qm|apply qd|apply qc|apply qe|apply qs|(refine qf Tryz.call171 (qje st _ _ _ _ 0 1 0 _ _ rfl rfl rfl) ?_))
  refine qu3 (k:=4) rfl rfl rfl (qk rfl (qz rfl) ⟨congrArg (fun l:qa=>Sv l) (?_:_=yn by' text),xg _ _ _ _⟩)
  rw [wh,List.append_nil] at hd
  unfold yn
  rw [hd]
end Go.Proofs.YtneejjefekdgjaaGreatDoor
namespace Go.Pl
open Go Go.Proofs
def vn (x:LnV):qa×Bool:=(x.text,x.ended)
theorem qmw (l:qa):(lns l).map vn=zr l:=qub _ l 0 0 (Nat.le_refl _)
end Go.Pl
namespace Go.Proofs.YtneejjefekdgjaaGreatDoor
open Go Go.Av Go.RowKit Go.Proofs Go.Pl
set_option maxHeartbeats 2000000 in
theorem q0f (text by':qa) (st:List AObj) (hl:text.length<100000000) (hb:by'.length<1000):qn E 182 [Sv text,Sv by'] st fun r st'=>r=Sv (yn by' text)∧st'=st:=by
 refine qu (qx _) (qo Tryz.func182 rfl (Nat.le_of_ble_eq_true rfl) ?_)
 obtain⟨hsum,hcnt⟩:=qer _ text (Nat.le_refl _)
 have hp:=qmw text
 have hpl:(lns text).length=(zr text).length:=by rw [← hp,List.length_map]
 have hml:((lns text).map lnA).length=(lns text).length:=by simp
 repeat' (first|apply qm|apply qt|apply qd|apply qc|apply qi|apply qe|(apply kl;(iterate 4 exact rfl))|(apply qf;exact Tryz.call137;exact qhl _ _ hl))
 refine qa7 (lns text) (fun pre s=>StE [(1,Sv by'),(5,Sv (indF by' (pre.map vn))),(9,lnsA (lns text)),(10,Iv (lns text).length),(11,Iv pre.length)] st [] s) (qcs ⟨rfl,rfl,rfl,congrArg (fun n:Nat=>Iv (n:Int)) hml,rfl,trivial⟩ rfl) ?_ ?_
 ·rintro _ ⟨t,ext,rfl⟩
  repeat' (first|apply qm|apply qd|apply qc|apply qi|apply qe|(apply qq;(iterate 3 exact rfl))|(apply qb;exact rfl;apply vw;exact cAo)|apply z7|apply qs)
  refine qk rfl (qz rfl) ⟨congrArg (fun l:qa=>Sv l) (?_:indF by' ((lns text).map vn)=_),xg _ _ _ _⟩
  rw [hp]
  rfl
 ·rintro pre a rest _ hr ⟨t,ext,rfl⟩
  have hlen:(lns text).length=pre.length+(rest.length+1):=by rw [hr];simp
  have hget:((lns text).map lnA)[pre.length]? = some (lnA a):=by rw [hr];simp
  have he:zr text=(pre.map vn++[vn a])++rest.map vn:=by rw [← hp,hr];simp
  have hs2:lsum (pre.map vn++[vn a])+lsum (rest.map vn)=text.length:=by rw [← qxu,← he];exact hsum
  have hil:=qkz by' (pre.map vn++[vn a])
  have hm:by'.length * (pre.map vn++[vn a]).length≤1000 * 100000000:=Nat.mul_le_mul (by omega) (by rw [List.length_append,List.length_map];simp;omega)
  rw [qky,qk0] at hil
  have e1:(vn a).1=a.text:=rfl
  have e2:(vn a).2=a.ended:=rfl
  rw [e1,e2] at hil
  simp only [List.length_append] at hil hm
  have hx:indF by' ((pre++[a]).map vn)=((indF by' (pre.map vn)++by')++a.text)++wu a.ended:=by
   rw [List.map_append,List.map_singleton,qky,qk0,e1,e2];simp
  cases hae:a.ended
  ·have hx2:indF by' ((pre++[a]).map vn)=(indF by' (pre.map vn)++by')++a.text:=by rw [hx,hae];simp [wu]
   rw [hae] at hil
   repeat' (first|apply qm|apply qt|apply qd|apply qc|apply qi|apply qe|(apply qq;(iterate 3 exact rfl))|(apply qb;exact rfl;apply ki;exact cAo)|(apply qb;exact rfl;apply cd_f;exact cRa)|(apply jl;exact rfl;exact rfl;exact cOs)|(apply zt;exact rfl;exact rfl;exact zb (by omega) (by omega))|(apply kc;exact rfl;exact rfl)|(apply zm;(iterate 3 exact rfl))|(apply zg;(iterate 3 exact rfl))|(apply za;(iterate 5 exact rfl))|(apply jk;(iterate 11 exact rfl))|apply qw|(apply kr (n:=pre.length);(iterate 5 exact rfl);exact hget))
   exact qaf ⟨rfl,congrArg (fun l:qa=>Sv l) hx2.symm,rfl,rfl,qeq pre a,trivial⟩ rfl
  ·have hx2:indF by' ((pre++[a]).map vn)=((indF by' (pre.map vn)++by')++a.text)++[10]:=by rw [hx,hae];simp [wu]
   rw [hae] at hil
   have hle:(wu true).length=1:=rfl
   repeat' (first|apply qm|apply qt|apply qd|apply qc|apply qi|apply qe|(apply qq;(iterate 3 exact rfl))|(apply qb;exact rfl;apply ki;exact cAo)|(apply qb;exact rfl;apply cd_t;exact cRa)|(apply jl;exact rfl;exact rfl;exact cOs)|(apply zt;exact rfl;exact rfl;exact zb (by omega) (by omega))|(apply kc;exact rfl;exact rfl)|(apply zm;(iterate 3 exact rfl))|(apply zg;(iterate 3 exact rfl))|(apply za;(iterate 5 exact rfl))|(apply jk;(iterate 11 exact rfl))|apply qw|(apply kr (n:=pre.length);(iterate 5 exact rfl);exact hget))
   exact qaf ⟨rfl,congrArg (fun l:qa=>Sv l) hx2.symm,rfl,rfl,qeq pre a,trivial⟩ rfl
end Go.Proofs.YtneejjefekdgjaaGreatDoor
namespace Go.Av
open Go Go.RowKit
def TipC (b:Nat) (st:List AObj) (sz:Nat) (T:TypeId) (xs:List AV) (c:AV):Prop:=(xs=[]∧c=zu)∨∃ t,c = .sl sz xs (some t)∧st[t]? = some (.tip xs.length sz T)∧b≤t
structure Fr (st st':List AObj) (t:Nat):Prop where
 len:st.length≤st'.length
 same:∀ k,k≠t→k<st.length→st'[k]? = st[k]?
theorem q94 (b:Nat) (st:List AObj) (sz:Nat) (T:TypeId):TipC b st sz T [] zu:=.inl ⟨rfl,rfl⟩
theorem qid {b:Nat} {st l:List AObj} {sz:Nat} {T:TypeId} {xs:List AV} {c:AV} (h:TipC b st sz T xs c):TipC b (st++l) sz T xs c:=by
 rcases h with h | ⟨t,h1,h2,h3⟩
 ·exact .inl h
 ·exact .inr ⟨t,h1,by rw [List.getElem?_append_left (lt_of_getElem? h2)];exact h2,h3⟩
section
variable {E : Env} {rd : Option Nat} {N : Nat} {ops : Array Oper} {K : AS → Prop} {s : AS} {rest : List Oper} {d : Option Tmp} {T : TypeId} {p : String} {af : Array Edge}
theorem qv7 {x y:Operand} {t u T':TypeId} {sz bytes b:Nat} {xs ys:List AV} {tip:Option Nat} {c:AV} {st:List AObj} (hst:s.st=st) (hx:qj N s x=c) (hc:TipC b st sz T' xs c) (hb:b≤st.length) (hy:qj N s y = .sl sz ys tip)
  (ht:E.P.underlying t=some (.slice T')) (hu:E.P.underlying u=some (.slice T')) (hT:qad E.P T' sz bytes) (hone:ke (flat ys)=true) (h63:xs.length+ys.length≤maxLen) (hby:(xs.length+ys.length) * bytes≤140737488355328)
  (h:∀ t1 st',st'[t1]? = some (.tip (xs++ys).length sz T')→b≤t1→Fr st st' t1→(c = .sl sz xs (some t1)∨st.length≤t1)→AOps E rd N ops rest K (AS.put ⟨s.t,st',s.df⟩ d (.sl sz (xs++ys) (some t1)))):AOps E rd N ops (⟨d,.call ⟨.builtin .append,#[x,y],#[t,u]⟩,T,p,af,none⟩::rest) K s:=by
 subst hst
 refine zf rfl (ze nofun fun B0 w0 G a w _ hI=>?_)
 rcases hc with⟨hxs,hcn⟩ | ⟨t1,h1,h2,h3⟩
 ·subst hxs
  have hle:=G.le_new 0 0 0 false
  have hA:=hI.agree.newTip sz T'
  have hv:a.eval x = .slice none 0 0:=hI.evalv (hx.trans hcn)
  have hn:=hI.agree.n
  obtain⟨news,k1,k2,k3⟩:=yx (P:=E.P) hA ((hI.eval_of hy).mono hle) (by simpa [ke] using hone)
  have hr:Rel (G.new 0 0 0 false) (.sl sz [] (some s.st.length)) (a.eval x):=by
   rw [hv]
   exact .sl0 sz _ none 0 fun t ht=>by simp only [Option.some.injEq] at ht;subst ht;exact⟨by simp [Gh.new,hn],rfl,rfl⟩
  obtain⟨v',w',G',e1,e2,e3,e4⟩:=qbt (ty:=T) hA ht hu (.inr ⟨_,rfl⟩) hT (t:=s.st.length) (n:=0) (by simp) hr rfl rfl k1 k2 k3 (by simpa using h63) (by simpa using hby)
  refine⟨v',w',G',_,_,?_,hle.trans e2,e3,e4,h s.st.length _ ?_ hb ⟨by simp,fun k hk hlt=>?_⟩ (.inr (Nat.le_refl _))⟩
  ·generalize a.eval = ρ at e1
   simp [execOp,resolve,invoke,builtin,e1]
  ·simp
  ·rw [List.getElem?_set_ne (Ne.symm hk),List.getElem?_append_left hlt]
 ·obtain⟨news,k1,k2,k3⟩:=yx (P:=E.P) hI.agree (hI.eval_of hy) (by simpa [ke] using hone)
  obtain⟨v',w',G',e1,e2,e3,e4⟩:=qbt (ty:=T) hI.agree ht hu (.inr ⟨_,rfl⟩) hT h2 (hI.eval_of (hx.trans h1)) rfl rfl k1 k2 k3 h63 hby
  refine⟨v',w',G',_,_,?_,e2,e3,e4,h t1 _ ?_ h3 ⟨by simp,fun k hk hlt=>?_⟩ (.inl h1)⟩
  ·generalize a.eval = ρ at e1
   simp [execOp,resolve,invoke,builtin,e1]
  ·rw [List.length_append]
   exact zy h2
  ·rw [List.getElem?_set_ne (Ne.symm hk)]
theorem ql8 {t:TypeId} {x:Operand} {r:AV} {cs:List AV} (hx:qj N s x=r) (hok:r.okc=true) (hc:r.cells=cs)
  (h:AOps E rd N ops rest K (s.put d (.pp cs))):AOps E rd N ops (⟨d,.box t x,T,p,af,none⟩::rest) K s:=by
 refine zf rfl (ze nofun fun B0 w0 G a w _ hI=>?_)
 have hr:=(hI.eval_of hx).cells hok
 rw [hc] at hr
 obtain⟨hle,hA⟩:=hI.agree.newPub t (a.eval x).cells (0,0) (a.eval x).cells.toList (fun i y hy=>by simpa using hy)
 have hrun:(execOp a.eval ⟨d,.box t x,T,p,af,none⟩).run E.P w = .ok (.value (.pointer (some ⟨w.heap.size,0,none⟩))) (w.alloc (.cells (a.eval x).cells t)):=by
  generalize a.eval = ρ
  simp [execOp,Instr.box,newVar,newRow,newObj,Sem.run]
 refine⟨_,_,_,.pp cs,s.st,hrun,hle,hA,.pp cs w.heap.size 0 (a.eval x).cells.toList (by simp [Gh.publish]) (by rw [hr.1];simp) fun i x y hx hy=>(hr.2 i x y hx (by simpa using hy)).mono hle,h⟩
end
theorem qn0 {E:Env} {f:FuncId} {x x':AV} {us:List AV} {st:List AObj} {R:AV→List AObj→Prop} (hw:∀ G v,Rel G x v→Rel G x' v) (h:qn E f (x'::us) st R):qn E f (x::us) st R:=
 ⟨fun B0 w0 G vals w hL hA hR=>h.run B0 w0 G vals w hL hA ⟨by have:=hR.1;simpa using this,fun i a b ha hb=>by
  cases i with
  |zero=>simp at ha;subst ha;exact hw G b (hR.2 0 x b rfl hb)
  |succ i=>exact hR.2 (i+1) a b (by simpa using ha) hb⟩⟩
theorem jf {st l:List AObj} {o:Nat} {x:AObj} (h:st[o]? = some x):(st++l)[o]? = some x:=by
 rw [List.getElem?_append_left (lt_of_getElem? h)];exact h
theorem jb {st:List AObj} {x:AObj}:(st++[x])[st.length]? = some x:=by simp
section
variable {E : Env} {rd : Option Nat} {N : Nat} {ops : Array Oper} {K : AS → Prop} {s : AS} {rest : List Oper} {d : Option Tmp} {T : TypeId} {p : String} {af : Array Edge}
theorem qf5 {t:TypeId} {st:List AObj} {cs:List AV} (hst:s.st=st) (hz:qfo E.P t=some cs)
  (h:AOps E rd N ops rest K (AS.put ⟨s.t,st++[.cells 0 t cs],s.df⟩ d (.bx st.length 0 0))):AOps E rd N ops (⟨d,.alloc t,T,p,af,none⟩::rest) K s:=
 kc (loc:=[]) (by rw [hst];simp) hz h
theorem q4l {t:TypeId} {x:Operand} {st:List AObj} {r:AV} {cs:List AV} (hst:s.st=st) (hx:qj N s x=r) (hok:r.okc=true) (hc:r.cells=cs)
  (h:AOps E rd N ops rest K (AS.put ⟨s.t,st++[.cells 0 t cs],s.df⟩ d (.bx st.length 0 0))):AOps E rd N ops (⟨d,.box t x,T,p,af,none⟩::rest) K s:=
 qbm (loc:=[]) (by rw [hst];simp) hx hok hc h
end
theorem qqx {st st':List AObj} (hl:st.length≤st'.length) (h:∀ k,k<st.length→st'[k]? = st[k]?):∃ ext,st'=st++ext:=by
 refine⟨st'.drop st.length,?_⟩
 apply List.ext_getElem?
 intro k
 by_cases hk:k<st.length
 ·rw [h k hk,List.getElem?_append_left hk]
 ·rw [List.getElem?_append_right (by omega),List.getElem?_drop]
  congr 1
  omega
end Go.Av
namespace Go.Proofs.YtneejjefekdgjaaGreatDoor
open Go Go.Av Go.RowKit Go.Proofs
def qh5 (x:Option AObj):Prop:=∀ n sz T,x≠some (.tip n sz T)
theorem zq {ver:Nat} {T:TypeId} {cs:List AV} {x:Option AObj} (h:x=some (.cells ver T cs)):qh5 x:=fun n sz T' e=>by
 rw [h] at e
 simp at e
end Go.Proofs.YtneejjefekdgjaaGreatDoor
namespace Go.Proofs.YtneejjefekdgjaaGreatDoor
open Go Go.Av Go.RowKit Go.Proofs Go.Pl
structure Ext (n:Nat) (S S':List AObj):Prop where
 len:S.length≤S'.length
 low:∀ k,k<n→S'[k]? = S[k]?
 tips:∀ (t m sz:Nat) (T:TypeId),S[t]? = some (AObj.tip m sz T)→S'[t]? = S[t]?
theorem q08 {n:Nat} {S l:List AObj} (h:n≤S.length):Ext n S (S++l):=⟨by simp,fun k hk=>List.getElem?_append_left (by omega),fun t m sz T ht=>List.getElem?_append_left (lt_of_getElem? ht)⟩
theorem qdj {n o:Nat} {S:List AObj} {x:AObj} (h:n≤o) (hn:qh5 S[o]?):Ext n S (S.set o x):=⟨by simp,fun k hk=>List.getElem?_set_ne (by omega),fun t m sz T ht=>List.getElem?_set_ne (fun e=>by subst e;exact hn _ _ _ ht)⟩
theorem Ext.weak {n m:Nat} {S S':List AObj} (h:Ext n S S') (hm:m≤n):Ext m S S':=⟨h.len,fun k hk=>h.low k (by omega),h.tips⟩
theorem Ext.trans {n:Nat} {S S' S'':List AObj} (h:Ext n S S') (k:Ext n S' S''):Ext n S S'':=⟨Nat.le_trans h.len k.len,fun i hi=>(k.low i hi).trans (h.low i hi),fun t m sz T ht=>(k.tips t m sz T ((h.tips t m sz T ht).trans ht)).trans (h.tips t m sz T ht)⟩
theorem q63 (text:List UInt8) (o kb ver n m:Nat) (I:Nat→List UInt8→List AObj→Prop) (D:List AObj→Prop) (S:List AObj) (hm:S.length=m) (hn:n≤m) (ht:text.length<4294967281) (h0:I 0 text S)
  (hI:∀ k rest S',I k rest S'→S'[kb]? = some (.cells ver 9 [Sv text]))
  (hst:∀ k rest S' S'',Ext n S' S''→I k rest S'→I k rest S'')
  (hY:∀ k rest S' cs,I k rest S'→S'[m]? = some (.cells 0 145 cs)→rest≠[]→rest.length≤text.length→qab E o [qdk k text rest] S' fun b S''=>S''[m]? = some (.cells 0 145 cs)∧(b=true→I (k+1) (past 10 rest) S'')∧(b=false→D S'')) :
  qn E 121 [.yd o,.bx kb ver 0] S fun r S'=>(∃ k,I k [] S')∨D S':=by
 subst hm
 refine qo Tryz.func121 rfl (Nat.le_of_ble_eq_true rfl) ?_
 have hb:=hI 0 text S h0
 repeat' (first|apply qm|apply qt|apply qd|apply qc|apply qe|(apply kc;exact rfl;exact rfl)|(apply jk;(iterate 11 exact rfl))|(apply xi;(iterate 3 exact rfl))|(apply qcj;exact rfl;exact rfl;exact hb;exact rfl;exact rfl))
 refine jh (fun (x:Nat×List UInt8) s=>match x with|(k,rest)=>∃ S' at' ta eb,I k rest S'∧k+rest.length≤text.length∧at'=(text.length:Int) - rest.length∧S'[S.length]? = some (.cells 0 145 [Iv k,Iv at',Sv ta,Bv eb])∧StA [(0,.yd o),(1,.bx kb ver 0),(3,.bx S.length 0 0),(4,Sv rest)] S' [] s) (fun x=>x.2.length) (0,text)
  ⟨_,0,[],false,hst _ _ _ _ (q08 hn) h0,by simp,by simp,zl (k:=0) rfl,zw ⟨rfl,rfl,rfl,rfl,trivial⟩⟩ ?_
 rintro⟨k,rest⟩ _ ⟨S',_,ta,eb,hi,hle,rfl,hown,t,rfl⟩
 have hb':=hI k rest S' hi
 repeat' (first|apply qm|apply qt|apply qd|apply qc|apply qi|apply qe|(apply q9;exact rfl;exact rfl)|(apply jg;(iterate 3 exact rfl))|(apply qb;exact rfl;apply cd_d <;> intro h)|(apply zm;(iterate 3 exact rfl))|apply qw|apply z7|(apply qf;exact Tryz.call72;exact qhw _ _ _ (by omega))|(apply zh;exact rfl;(focus first|assumption|(repeat' (first|assumption|exact jb|exact zl rfl|apply zy|apply zi|omega|apply jf)));exact rfl;exact rfl)|(apply xj;exact rfl;exact rfl;(focus first|assumption|(repeat' (first|assumption|exact jb|exact zl rfl|apply zy|apply zi|omega|apply jf)));(iterate 6 exact rfl)))
 ·have e1:Ext n S' ((S'.set S.length (.cells 0 145 [Iv k,Iv ((text.length:Int) - rest.length),Sv (upto 10 rest),Bv eb])).set S.length (.cells 0 145 [Iv k,Iv ((text.length:Int) - rest.length),Sv (upto 10 rest),Bv (decide (10∈rest))])):=
   (qdj hn (zq hown)).trans (qdj hn (zq (zy hown)))
  apply qfq (o:=o) rfl
  refine qab.mono (hY k rest _ _ (hst _ _ _ _ e1 hi) (zy (zy hown)) h (by omega)) ?_
  rintro b S2 ⟨hown2,h1,h2⟩
  show AOps _ _ _ _ _ _ _
  cases b
  ·skip
   repeat' (first|apply qc|(apply jd;exact rfl)|(apply qb;exact rfl;apply qkr;exact cRa)|apply qs)
   exact qk rfl (qa6 rfl) (.inr (h2 rfl))
  ·have hi3:=h1 rfl
   have hb3:=hI _ _ _ hi3
   have hp:=kq 10 rest
   have hr0:0<rest.length:=List.length_pos_iff.2 h
   have hkb:kb≠S.length:=fun e=>by
    rw [e,hown2] at hb3
    simp at hb3
   repeat' (first|apply qm|apply qd|apply qc|apply qi|(apply jd;exact rfl)|(apply qb;exact rfl;apply qiq;exact cRa)|(apply zo;(iterate 3 exact rfl))|(apply zt;exact rfl;exact rfl;exact zb (by omega) (by omega))|(apply w8;exact rfl;exact rfl;exact zb (by omega) (by omega))|(apply zm;(iterate 3 exact rfl))|apply qw|(apply zh;exact rfl;exact zi hb3 (Ne.symm hkb);exact rfl;exact rfl)|(apply zh;exact rfl;(focus first|assumption|(repeat' (first|assumption|exact jb|exact zl rfl|apply zy|apply zi|omega|apply jf)));exact rfl;exact rfl)|(apply xj;exact rfl;exact rfl;(focus first|assumption|(repeat' (first|assumption|exact jb|exact zl rfl|apply zy|apply zi|omega|apply jf)));(iterate 6 exact rfl)))
   have e2:Ext n S2 _:=(qdj hn (zq hown2)).trans (qdj (x:=.cells 0 145 [Iv ((k:Int)+1),Iv ((text.length:Int) - (past 10 rest).length),Sv (upto 10 rest),Bv (decide (10∈rest))]) hn (zq (zy (y:=.cells 0 145 [Iv ((k:Int)+1),Iv ((text.length:Int) - rest.length),Sv (upto 10 rest),Bv (decide (10∈rest))]) hown2)))
   exact⟨(k+1,past 10 rest),⟨_,_,_,_,hst _ _ _ _ e2 hi3,by omega,rfl,zy (zy hown2),zw ⟨rfl,rfl,rfl,rfl,trivial⟩⟩,by simp only;omega⟩
 ·have hr:rest=[]:=Classical.not_not.1 h
  subst hr
  exact qk rfl (qa6 rfl) (.inl ⟨k,hi⟩)
structure ItC (g:FuncId) (T:TypeId) (cs:List AV) {ι : Type} (Y : ι→Option (AV×ι)) (i0 : ι):Prop where
 run:∀ (o kb n m:Nat) (I : ι→List AObj→Prop) (D:List AObj→Prop) (S:List AObj),S.length=m→n≤m→I i0 S →
  (∀ i S',I i S'→S'[kb]? = some (.cells 0 T cs))→(∀ i S' S'',Ext n S' S''→I i S'→I i S'') →
  (∀ i x j S' (own:List AObj),I i S'→(∀ k y,own[k]? = some y→S'[m+k]? = some y∧qh5 (some y))→Y i=some (x,j)→qab E o [x] S' fun b S''=>(∀ k y,own[k]? = some y→S''[m+k]? = some y)∧(b=true→I j S'')∧(b=false→D S'')) →
  qn E g [.yd o,.bx kb 0 0] S fun r S'=>(∃ i,Y i=none∧I i S')∨D S'
def qna (text:List UInt8):Nat×List UInt8→Option (AV×(Nat×List UInt8))
 |(k,rest)=>if rest=[]∨text.length<rest.length then none else some (qdk k text rest,(k+1,past 10 rest))
theorem q90 (text:List UInt8) (ht:text.length<4294967281):ItC 121 9 [Sv text] (qna text) (0,text):=⟨fun o kb n m I D S hm hn h0 hI hst hY=>by
 refine (q63 text o kb 0 n m (fun k rest S=>I (k,rest) S∧rest.length≤text.length) D S hm hn ht ⟨h0,Nat.le_refl _⟩ (fun k rest S' h=>hI _ _ h.1) (fun k rest S' S'' hE h=>⟨hst _ _ _ hE h.1,h.2⟩) (fun k rest S' cs hi hown hne hle=>?_)).mono ?_
 ·refine (hY (k,rest) (qdk k text rest) (k+1,past 10 rest) S' [.cells 0 145 cs] hi.1 (fun j y hy=>?_) (if_neg fun h=>h.elim hne (by omega))).mono fun b S'' ⟨h1,h2,h3⟩=>⟨by have:=h1 0 _ rfl;simpa using this,fun hb=>⟨h2 hb,by have:=kq 10 rest;omega⟩,h3⟩
  match j with
  | 0=>
   simp only [List.getElem?_cons_zero,Option.some.injEq] at hy
   subst hy
   exact⟨hown,zq rfl⟩
  |j+1=>simp at hy
 ·rintro r S' (⟨k,h⟩|h)
  ·exact .inl ⟨(k,[]),by simp [qna],h.1⟩
  ·exact .inr h⟩
@[reducible] def zdj (n : Nat) (F : LoopState → Option Code → AObj) (own : List AObj) (I : List AObj → Prop) (D : Code → List AObj → Prop) : Exit → AS → Prop
 | .normal,s=>s.st[n]? = some .dfr∧s.st[n+1]? = some (F .busy none)∧(∀ k y,own[k]? = some y→s.st[n+2+k]? = some y)∧I s.st
 | .ret,s=>s.st[n]? = some .dfr∧s.st[n+1]? = some (F .busy none)∧(∀ k y,own[k]? = some y→s.st[n+2+k]? = some y)∧D .ret s.st
 | .exit id,s=>s.st[n]? = some .dfr∧s.st[n+1]? = some (F .busy none)∧(∀ k y,own[k]? = some y→s.st[n+2+k]? = some y)∧D (.exit id) s.st
 | _,_=>False
theorem qh6 {N:Nat} {t:Nat→AV} {ps:Array Tmp} {asg body:Code} {F:LoopState→Option Code→AObj} (hF:qki F N t ps asg body) (ls:LoopState) (pend:Option Code) {x:Option AObj} (h:x=some (F ls pend)):qh5 x:=fun n sz T' e=>by
 rw [h,hF] at e
 simp at e
theorem qwj {N:Nat} {Q:Exit→AS→Prop} {s:AS} {f:Operand} {p:Tmp} {asg body:Code} {S0:List AObj} {kb:Nat} {g:FuncId} {T:TypeId} {cs:List AV} {ι : Type} {Y : ι→Option (AV×ι)} {i0 : ι} (hit:ItC g T cs Y i0) (hst:s.st=S0) (hx:qj N s f = .fn (.func g) [] [.bx kb 0 0])
  (hrun:∀ vs w,(callFunc g vs).run E.P w = .ok (.enter g vs) w)
  (I : ι→List AObj→Prop) (D:Code→List AObj→Prop) (h0:I i0 S0)
  (hI:∀ i S,I i S→S[kb]? = some (.cells 0 T cs))
  (hs1:∀ i S S',Ext S0.length S S'→I i S→I i S') (hs2:∀ c S S',Ext S0.length S S'→D c S→D c S')
  (hb:∀ F (own:List AObj) rd i x j S,qki F N s.t #[p] asg body→I i S→Y i=some (x,j)→S[S0.length]? = some .dfr→S[S0.length+1]? = some (F .ready none)→(∀ k y,own[k]? = some y→S[S0.length+2+k]? = some y∧qh5 (some y)) →
   AWp E (some rd) N asg (only fun s1=>s1.st[S0.length+1]? = some (F .ready none)∧s1.df=[]∧AWp E (some rd) N body (zdj S0.length F own (I j) D) ⟨s1.t,s1.st.set (S0.length+1) (F .busy none),[]⟩) ⟨put s.t p x,S,[]⟩)
  (hn:∀ i S,Y i=none→I i S→S[S0.length]? = some .dfr→Q .normal ⟨s.t,S,S0.length::s.df⟩)
  (hd:∀ c S,D c S→S[S0.length]? = some .dfr→AWp E none N c Q ⟨s.t,S,S0.length::s.df⟩):AWp E none N (.rangeFunc f #[p] asg body) Q s:=by
 refine qkp (st:=S0) (loc:=[]) (by rw [hst];simp) hx hrun fun F hF=>?_
 have hl:(S0++([]++[AObj.dfr,F .ready none])).length=S0.length+2:=by simp
 have g1:(S0++([]++[AObj.dfr,F .ready none]))[S0.length]? = some .dfr:=by simp
 have g2:(S0++([]++[AObj.dfr,F .ready none]))[S0.length+1]? = some (F .ready none):=by simp
 have hz:S0.length+(([]:List AObj).length+1)=S0.length+1:=by simp
 rw [hz,show S0.length+([]:List AObj).length=S0.length from rfl]
 refine qn.mono (hit.run (S0.length+1) kb (S0.length+2) (S0.length+2) (fun i S=>I i S∧S[S0.length]? = some .dfr∧S[S0.length+1]? = some (F .ready none)) (fun S=>∃ c,D c S∧S[S0.length]? = some .dfr∧S[S0.length+1]? = some (F .done (some c))) (S0++([]++[.dfr,F .ready none])) hl (Nat.le_refl _) ⟨hs1 _ _ _ (q08 (Nat.le_refl _)) h0,g1,g2⟩ (fun i S h=>hI i S h.1) (fun i S S' hE h=>⟨hs1 _ _ _ (hE.weak (by omega)) h.1,(hE.low _ (by omega)).trans h.2.1,(hE.low _ (by omega)).trans h.2.2⟩) ?_) ?_
 ·rintro i x j S' own ⟨hi,hd1,hf1⟩ hown hy
  refine qo4 hF hf1 rfl fun rd=>?_
  refine (hb F own rd i x j S' hF hi hy hd1 hf1 hown).mono fun e s1 hq=>?_
  have fin:∀ {S:List AObj} {z:AObj},(∀ k y,own[k]? = some y→S[S0.length+2+k]? = some y)→∀ k y,own[k]? = some y→(S.set (S0.length+1) z)[S0.length+2+k]? = some y:=fun h k y hk=>zi (h k y hk) (by omega)
  cases e with
  |normal=>
   obtain⟨q1,q2,q3⟩:=hq
   refine⟨q1,q2,q3.mono fun e s2 hq2=>?_⟩
   cases e with
   |normal=>
    obtain⟨k1,k2,k3,k4⟩:=hq2
    exact⟨k2,fin k3,fun _=>⟨hs1 _ _ _ (qdj (by omega) (qh6 hF _ _ k2)) k4,zi k1 (by omega),zy k2⟩,nofun⟩
   |ret=>
    obtain⟨k1,k2,k3,k4⟩:=hq2
    exact⟨k2,fin k3,nofun,fun _=>⟨_,hs2 _ _ _ (qdj (by omega) (qh6 hF _ _ k2)) k4,zi k1 (by omega),zy k2⟩⟩
   |exit id=>
    obtain⟨k1,k2,k3,k4⟩:=hq2
    exact⟨k2,fin k3,nofun,fun _=>⟨_,hs2 _ _ _ (qdj (by omega) (qh6 hF _ _ k2)) k4,zi k1 (by omega),zy k2⟩⟩
   | _=>exact hq2.elim
  | _=>exact hq.elim
 ·rintro r S' (⟨i,hy,hi,hd1,hf1⟩ | ⟨c,hi,hd1,hf1⟩)
  ·exact⟨.ready,none,nofun,hf1,hn i _ hy (hs1 _ _ _ (qdj (by omega) (qh6 hF _ _ hf1)) hi) (zi hd1 (by omega))⟩
  ·exact⟨.done,some c,nofun,hf1,hd c _ (hs2 _ _ _ (qdj (by omega) (qh6 hF _ _ hf1)) hi) (zi hd1 (by omega))⟩
end Go.Proofs.YtneejjefekdgjaaGreatDoor
namespace Go.Av
open Go Go.RowKit
theorem qp4 {P:Program} {B0:Nat} {w0:World} {G:Gh} {st:List AObj} {w:World} (hA:zk B0 w0 G st w) {tt u ty T:TypeId} {du:TypeDesc} (htt:P.underlying tt=some (.slice T)) (hu:P.underlying u=some du) (hd:qhs du)
  {sz bytes:Nat} (hT:qad P T sz bytes) {t n m:Nat} (ht:st[t]? = some (.tip n sz T)) {xs ys:List AV} {x:Value} (hn:xs.length=n) (hm:ys.length=m)
  {news:List Value} (hx:Src P w x m sz news) (hys:∀ y∈ys,y.cells.length=sz) (hrel:∀ (i:Nat) (a:AV) (b:Value),(flat ys)[i]? = some a→news[i]? = some b→Rel G a b)
  (h63:n+m≤maxLen) (base:Option Addr) (c:Nat) (olds:List Value) (ho:(Builtin.firstCells sz n (.slice base n c)).run P w.drew = .ok olds.toArray w.drew) (hc:c<n+m) (hol:olds.length=n * sz) (hfx:(flat xs).length=n * sz) (hwx:∀ x∈xs,x.cells.length=sz)
  (hrx:∀ (j:Nat) (a:AV) (b:Value),(flat xs)[j]? = some a→olds[j]? = some b→Rel G a b) (hfit:Builtin.nextslicecap (n+m) c * bytes≤281474976710656) (hm0:m≠0) :
  ∃ v' w' G',(Builtin.append_ #[tt,u] ty #[.slice base n c,x]).run P w = .ok v' w'∧G.le G'∧zk B0 w0 G' (st.set t (.tip (n+m) sz T)) w'∧Rel G' (.sl sz (xs++ys) (some t)) v':=by
 obtain⟨i,z,hi,hz,rfl,rfl,hzs⟩:=hT.ex
 obtain⟨hraw,hver,htip⟩:=hA.ob t _ ht
 have htn:t<G.n:=by rw [hA.n];exact lt_of_getElem? ht
 have hlt:G.n=st.length:=hA.n
 have hk:=hA.kill t
 have hkt:(st.set t .dead)[t]? = some .dead:=qbw ht
 have hother:∀ o x,(st.set t .dead)[o]? = some x→x.live→o≠t∧st[o]? = some x:=fun o x hx hl=>by
  rcases getElem?_set' _ _ _ _ _ hx with⟨_,e⟩ | ⟨h1,h2⟩
  ·subst e;exact hl.elim
  ·exact⟨h1,h2⟩
 have hset:(st.set t AObj.dead).set t (.tip (n+m) i.size T)=st.set t (.tip (n+m) i.size T):=by rw [List.set_set]
 have hself:st.set t (.tip n i.size T)=st:=by
  apply List.ext_getElem?
  intro k
  by_cases e:t=k
  ·subst e;rw [List.getElem?_set_self (lt_of_getElem? ht)];exact ht.symm
  ·rw [List.getElem?_set_ne e]
 have hrun:=qfk (ty:=ty) htt hu hd hi hz hx base n c olds ho hc (by simp only [maxLen] at h63;omega) hfit
 have hge:=grownCap_ge w (n+m) c T
 have hle:=grownCap_le_maxLen w (n+m) c T h63
 generalize grownCap w (n+m) c T=cap at hrun hge hle
 have hsz:(olds.toArray++news.toArray++Builtin.zeroCells z.cells (cap - (n+m))).size=cap * i.size:=by
  simp only [Array.size_append,List.size_toArray,size_zeroCells,hzs,hol,hx.count,← Nat.add_mul]
  congr 1
  omega
 generalize hcv:olds.toArray++news.toArray++Builtin.zeroCells z.cells (cap - (n+m))=c' at hrun hsz
 have hdrew:Below w.heap.size w w.drew:=⟨rfl,rfl,rfl,Nat.le_refl _,fun _ _=>rfl⟩
 have hA1:=hk.fresh hdrew
 have hpre:∀ (j:Nat) (y:Value),(olds++news)[j]? = some y→c'[j]? = some y:=fun j y hy=>by
  have hj:=lt_of_getElem? hy
  rw [← hcv,Array.getElem?_append_left (by simp at hj ⊢;omega),List.append_toArray]
  simpa using hy
 obtain⟨hle1,hA2⟩:=hA1.newPub T c' (0,0) (olds++news) hpre
 have hnp:G.pub w.heap.size=none:=by
  cases hp:G.pub w.heap.size with
  |none=>rfl
  |some vs=>exact absurd (hA.pub_lt hp) (Nat.lt_irrefl _)
 obtain⟨hle2,hA3⟩:=hA2.setTip (n':=n+m) (vs:=olds++news) (k:=w.heap.size) (cap:=cap * i.size) (sz:=i.size) (T:=T) hkt (by simpa [Gh.publish] using hraw) (by simpa [Gh.publish] using hver) (by omega) (yl w.drew _) (by simp [Gh.publish]) (by simp [hol,hx.count,Nat.add_mul]) hsz hA.hB (fun o x hx hl=>by
  obtain⟨_,hx'⟩:=hother o x hx hl
  exact Nat.ne_of_lt ((hA.ob o x hx').lt hl))
 rw [hset] at hA3
 refine⟨_,_,_,hrun,hle1.trans hle2,hA3,?_⟩
 have hmono:∀ {a b},Rel G a b→Rel ((G.publish w.drew.heap.size (olds++news)).setOb t ⟨n+m,w.heap.size,cap * i.size,false⟩) a b:=fun h=>(h.mono hle1).mono hle2
 refine qs5 (n:=n) (m:=m) (cap:=cap) (k:=w.heap.size) (vs:=olds) (news:=news) (by simp [Gh.setOb]) (by simp [Gh.setOb]) (by simp [Gh.setOb]) hle hge (by simpa [Gh.setOb,Gh.publish] using htn) (by omega) hn hm (by simp [Gh.setOb,Gh.publish]) (fun y hy=>?_) hol hx.count hfx (fun j a b h1 h2=>hmono (hrx j a b h1 h2)) (fun j a b h1 h2=>hmono (hrel j a b h1 h2))
 rcases List.mem_append.1 hy with h|h
 ·exact hwx y h
 ·exact hys y h
def TipO (b:Nat) (st:List AObj) (sz:Nat) (T:TypeId) (xs:List AV) (c:AV):Prop:=TipC b st sz T xs c∨(xs=[]∧∃ o v f,c = .os o v f 0 0)
theorem kj (b:Nat) (st:List AObj) (sz:Nat) (T:TypeId):TipO b st sz T [] zu:=.inl (q94 ..)
theorem vc (b:Nat) (st:List AObj) (sz:Nat) (T:TypeId) (o v f:Nat):TipO b st sz T [] (.os o v f 0 0):=.inr ⟨rfl,_,_,_,rfl⟩
theorem zb7 {G:Gh} {o v f:Nat} {sz:Nat} {x:Value} (h:Rel G (.os o v f 0 0) x):Rel G (.sl sz [] none) x:=by
 cases h with
 |os _ _ _ _ b _ hn hv h=>exact .sl0 sz none _ _ (by simp)
section
variable {E : Env} {rd : Option Nat} {N : Nat} {ops : Array Oper} {K : AS → Prop} {s : AS} {rest : List Oper} {d : Option Tmp} {T : TypeId} {p : String} {af : Array Edge}
theorem z0 {x y:Operand} {t u T':TypeId} {sz bytes b:Nat} {xs ys:List AV} {tip:Option Nat} {c:AV} {st:List AObj} (hst:s.st=st) (hx:qj N s x=c) (hy:qj N s y = .sl sz ys tip)
  (ht:E.P.underlying t=some (.slice T')) (hu:E.P.underlying u=some (.slice T')) (hT:qad E.P T' sz bytes) (hc:TipO b st sz T' xs c) (hb:b≤st.length) (hone:ke (flat ys)=true) (h63:xs.length+ys.length≤maxLen) (hby:(xs.length+ys.length) * bytes≤140737488355328)
  (h:∀ c' st' t1,TipO b st' sz T' (xs++ys) c'→Fr st st' t1→b≤t1→(c = .sl sz xs (some t1)∨st.length≤t1)→AOps E rd N ops rest K (AS.put ⟨s.t,st',s.df⟩ d c')):AOps E rd N ops (⟨d,.call ⟨.builtin .append,#[x,y],#[t,u]⟩,T,p,af,none⟩::rest) K s:=by
 rcases hc with hc | ⟨hxs,o,ver,f,hco⟩
 ·refine qv7 hst hx hc hb hy ht hu hT hone h63 hby fun t1 st' g1 g2 g3 g4=>h _ st' t1 (.inl (.inr ⟨t1,rfl,g1,g2⟩)) g3 g2 g4
 ·subst hst
  subst hxs
  refine zf rfl (ze nofun fun B0 w0 G a w _ hI=>?_)
  have he:=hI.eval_of (hx.trans hco)
  obtain⟨news,k1,k2,k3⟩:=yx (P:=E.P) hI.agree (hI.eval_of hy) (by simpa [ke] using hone)
  have hex:=hT.ex
  obtain⟨i,z,hi,hz,hsz,hbt,hzs⟩:=hex
  generalize hv:a.eval x=v at he
  cases he with
  |os _ _ _ _ blk _ hn hvv hbb=>
   by_cases hm0:ys.length=0
   ·have hy0:ys=[]:=List.eq_nil_of_length_eq_zero hm0
    subst hy0
    have hk1':Src E.P w (a.eval y) 0 i.size []:=by
     have:news=[]:=List.eq_nil_of_length_eq_zero (by simpa using k1.count)
     rw [hsz]
     rw [this] at k1
     exact k1
    refine⟨_,w,G,_,s.st,?_,.refl G,hI.agree,.os o ver f 0 blk 0 hn hvv hbb,h _ s.st s.st.length (.inr ⟨rfl,o,ver,f,rfl⟩) ⟨Nat.le_refl _,fun _ _ _=>rfl⟩ hb (.inr (Nat.le_refl _))⟩
    have:=qb3 (ty:=T) ht hu (.inr ⟨_,rfl⟩) hi hk1' (some ⟨blk,f,none⟩) 0 0 (Nat.le_refl _)
    generalize a.eval = ρ at hv this
    simp [execOp,resolve,invoke,builtin,hv,this]
   ·have hle:=G.le_new 0 0 0 false
    have hA:=hI.agree.newTip sz T'
    have hz63:0+ys.length≤maxLen:=by simpa using h63
    obtain⟨v',w',G',e1,e2,e3,e4⟩:=qp4 (ty:=T) hA ht hu (.inr ⟨_,rfl⟩) hT (t:=s.st.length) (n:=0) (xs:=[]) (by simp) rfl rfl k1 k2 (fun i a b h1 h2=>(k3 i a b h1 h2).mono hle) hz63 (some ⟨blk,f,none⟩) 0 []
     (run_firstCells_some w.drew sz 0 ⟨blk,f,none⟩ 0 0 [] (by simp) (by simp)) (by omega) (by simp) (by simp [flat]) (by simp) (by simp [flat]) (by rw [Nat.zero_add,nextslicecap_zero (by omega)];have:=hby;simp at this;omega) hm0
    refine⟨v',w',G',_,_,?_,hle.trans e2,e3,e4,h _ _ s.st.length (.inl (.inr ⟨s.st.length,rfl,?_,hb⟩)) ⟨by simp,fun k hk hlt=>?_⟩ hb (.inr (Nat.le_refl _))⟩
    ·generalize a.eval = ρ at e1 hv
     simp [execOp,resolve,invoke,builtin,hv,e1]
    ·simp
    ·rw [List.getElem?_set_ne (Ne.symm hk),List.getElem?_append_left hlt]
end
theorem jc {α : Type} {g : α→AV} {l:List α} (h:∀ a,ke (g a).cells=true):ke (flat (l.map g))=true:=by
 induction l with
 |nil=>rfl
 |cons a r ih=>
  have h1:=h a
  unfold ke flat at *
  rw [List.map_cons,List.flatMap_cons,List.all_append,h1,ih]
  rfl
theorem qib {b:Nat} {st:List AObj} {sz:Nat} {T:TypeId} {xs:List AV} {c:AV} (h:TipO b st sz T xs c):∀ G v,Rel G c v→Rel G (.sl sz xs none) v:=by
 rcases h with (⟨rfl,rfl⟩ | ⟨t,rfl,_⟩) | ⟨rfl,o,v,f,rfl⟩
 ·exact fun G v h=>qb9 h
 ·exact fun G v h=>qi9 h
 ·exact fun G v h=>zb7 h
end Go.Av
