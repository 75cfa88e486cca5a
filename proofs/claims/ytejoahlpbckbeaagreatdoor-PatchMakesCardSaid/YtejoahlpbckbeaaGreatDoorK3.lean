/- Contracts and plain facts that the closing text leans on (part 3). No condition of their own beyond those that each states. -/
import Derived.Test.YtejoahlpbckbeaaGreatDoorK2
import Derived.Lib.AppendZerosOnto
import Derived.Lib.Overlaps
set_option maxRecDepth 100000
set_option linter.unusedVariables false
set_option linter.unusedSimpArgs false
namespace Go.Av
open Go Go.RowKit
section
variable {B0 : Nat} {w0 : World} {G : Gh} {st : List AObj} {w : World}
theorem qw.pubOb (h:qw B0 w0 G st w) {o ver:Nat} {T:TypeId} {cs:List AV} (ho:st[o]? = some (.cells ver T cs)) :
  ∃ vs:List Value,G.le (G.publish (G.ob o).blk vs)∧qw B0 w0 (G.publish (G.ob o).blk vs) (st.set o .dead) w∧(G.ob o).ver=ver∧(G.publish (G.ob o).blk vs).pub (G.ob o).blk=some vs∧cs.length=vs.length ∧
   ∀ (i:Nat) (x:AV) (y:Value),cs[i]? = some x→vs[i]? = some y→Rel (G.publish (G.ob o).blk vs) x y:=by
 obtain⟨h0,h1,h2,h3,c,h4,h5,h6⟩:=h.ob o _ ho
 have hle:G.le (G.publish (G.ob o).blk c.toList):=G.le_publish _ _ [] [] (.inl h3)
 refine⟨c.toList,hle,?_,h1,by simp [Gh.publish],by simpa using h5,fun i x y hx hy=>(h6 i x y hx (by simpa using hy)).mono hle⟩
 have key:∀ (k:Nat) (x:AObj),(st.set o .dead)[k]? = some x→x = .dead∨(k≠o∧st[k]? = some x):=fun k x hx=>by
  rcases getElem?_set' _ _ _ _ _ hx with⟨_,e⟩|e
  ·exact .inl e
  ·exact .inr e
 refine⟨h.below,h.hB,by simp [h.n,Gh.publish],fun b vs hb=>?_,fun k x hx=>?_,fun k k' x x' hne hx hx' hl hl'=>?_⟩
 ·simp only [Gh.publish] at hb
  by_cases e:b=(G.ob o).blk
  ·rw [if_pos e] at hb
   cases hb
   subst e
   exact⟨c,T,(0,0),h4,fun i y hy=>by simpa using hy⟩
  ·rw [if_neg e] at hb
   exact h.pub b vs hb
 ·rcases key k x hx with rfl | ⟨hk,hx⟩
  ·trivial
  ·refine (h.ob k x hx).mono hle rfl (fun hl=>?_) (fun _=>rfl)
   have:=h.sep k o x _ hk hx ho hl trivial
   simp [Gh.publish,this]
 ·rcases key k x hx with rfl | ⟨hk,hx⟩
  ·exact hl.elim
  ·rcases key k' x' hx' with rfl | ⟨hk',hx'⟩
   ·exact hl'.elim
   ·exact h.sep k k' x x' hne hx hx' hl hl'
end
section
variable {E : Env} {rd : Option Nat} {N : Nat} {ops : Array Oper} {K : AS → Prop} {s : AS} {rest : List Oper} {d : Option Tmp} {T : TypeId} {p : String} {af : Array Edge}
theorem Inv.pub {B0:Nat} {w0:World} {G:Gh} {a:Act} {w:World} (h:Inv B0 w0 N G s a w) {i o ver:Nat} {T':TypeId} {cs:List AV} (hi:s.t i = .bx o ver 0) (ho:s.st[o]? = some (.cells ver T' cs)) :
  ∃ G',G.le G'∧Inv B0 w0 N G' ⟨Av.put s.t i (.pp cs),s.st.set o .dead,s.df⟩ a w:=by
 obtain⟨vs,hle,hA,hv,hp,hl,hr⟩:=h.agree.pubOb ho
 refine⟨_,hle,hA,h.defers_mono hle,h.size,fun j y hy=>?_⟩
 have hj:=h.tmps j y hy
 by_cases e:j=i
 ·subst e
  simp only [wg]
  rw [hi] at hj
  cases hj with
  |bx _ _ _ b hn hv' hb=>
   have hb:=hb hv
   subst hb
   exact .pp cs _ 0 vs hp (by omega) fun k x y hx hy=>hr k x y hx (by simpa using hy)
 ·simp only
  rw [xx _ _ _ _ e]
  exact hj.mono hle
theorem qow {x y:Operand} {t:TypeId} {sz:Nat} {agg:Bool} {st loc loc' ext new:List AObj} {k ver off:Nat} {T':TypeId} {cs xs:List AV} {r:AV} (hs:s.st=((st++loc)++ext)++new) (hx:qf N s x = .bx (st.length+k) ver off) (hy:qf N s y=r) (ho:loc[k]? = some (.cells ver T' cs)) (ht:tyOf E.P t=some (sz,agg))
  (hok:r.okc=true) (hc:r.cells=xs) (hsz:Nat.beq xs.length sz=true) (h1:jq xs=true) (hfit:Nat.ble (off+sz) cs.length=true) (hl:loc'=loc.set k (.cells ver T' (zh cs off xs)))
  (h:AOps E rd N ops rest K (AS.put ⟨s.t,((st++loc')++ext)++new,s.df⟩ d (.v undef))):AOps E rd N ops (⟨d,.store t x y,T,p,af,none⟩::rest) K s:=by
 have hk:=lt_of_getElem? ho
 exact qac hx hy (by rw [hs];exact qb7 ho) ht hok hc hsz h1 hfit (by rw [hs,qg9 _ hk,← hl];exact h)
end
theorem qfh {α : Type} (l:List α) (a : α):(l++[a]).length=l.length+1:=by simp
theorem q8d {α : Type} (l:List α) (a : α):Iv ((l.length:Int)+1)=Iv ((l++[a]).length:Nat):=by rw [qfh];rfl
theorem q55 {α : Type} {sz:Nat} {tip:Option Nat} (x0:AV) (g : α→AV) (pre:List α) (a : α) (v:AV) (h:v=g a):AV.sl sz ((x0::pre.map g)++[v]) tip=AV.sl sz (x0::(pre++[a]).map g) tip:=by rw [List.map_append,h];rfl
theorem qfp {E:Env} {rd:Option Nat} {N:Nat} {c:Code} {Q:Exit→AS→Prop} {s:AS} {α : Type} (xs:List α) (I:List α→AS→Prop) (h0:I [] s) (hend:∀ s,I xs s→AWp E rd N c (qsm (fun _=>False) Q) s)
  (hstep:∀ pre a rest s,xs=pre++a::rest→I pre s→AWp E rd N c (qsm (fun s'=>I (pre++[a]) s') Q) s):AWp E rd N (.loop c) Q s:=by
 refine vw (fun (x:List α×List α) s=>xs=x.1++x.2∧I x.1 s) (fun x=>x.2.length) ([],xs) ⟨rfl,h0⟩ ?_
 rintro⟨pre,rest⟩ s ⟨hx,hi⟩
 cases rest with
 |nil=>
  simp only [List.append_nil] at hx
  subst hx
  refine (hend s hi).mono fun e s' h=>?_
  cases e with
  |normal=>exact h.elim
  | _=>exact h
 |cons a rest=>
  refine (hstep pre a rest s hx hi).mono fun e s' h=>?_
  cases e with
  |normal=>exact⟨(pre++[a],rest),⟨by rw [hx];simp,h⟩,by simp⟩
  | _=>exact h
end Go.Av
namespace Go.Pl
open Go Go.Proofs
abbrev Fld:=qc×qc
def qbt (s:qc):Prop:=∀ c∈s,wm c
instance (s:qc):Decidable (qbt s):=inferInstanceAs (Decidable (∀ c∈s,wm c))
def vq (s:qc):qc:=if qbt s∨s.head? = some 46 then 46::s else s
def j8 (key p:qc):qc:=key++[58]++if p=[] then [] else [32]++p
def z7 (f:Fld):List qc:=j8 f.1 ((zn f.2).headD [])::(zn f.2).tail.map fun s=>[32]++vq s
def q6 (ls:List qc):qc:=ls.flatMap fun s=>s++[10]
def js (xs:List Fld):qc:=xs.flatMap fun f=>q6 (z7 f)
def ka (f:Fld):Int:=if ¬ qa5 f.1 then 5 else if 1000<f.2.length then 6 else 0
def jm (f:Fld):Prop:=qa5 f.1∧f.2.length≤1000
instance (f:Fld):Decidable (jm f):=inferInstanceAs (Decidable (_∧_))
theorem yj (f:Fld):ka f=0↔jm f:=by
 unfold ka jm
 by_cases h:qa5 f.1
 ·by_cases h2:1000<f.2.length
  ·simp [h,h2]
  ·simp [h,h2];omega
 ·simp [h]
def wu (c:UInt8) (l:qc):qc:=if l.head? = some c then l.drop 1 else l
theorem qpy (c:UInt8) (l:qc):Lib.trimPrefix l [c]=wu c l:=by
 unfold Lib.trimPrefix wu
 rw [qis]
 simp
def xz (l:qc) (r:List qc):qc:=wu 32 (w7 l)++r.flatMap fun s=>[10]++wu 46 (s.drop 1)
def qmg (ls:List qc):Prop:=ls≠[]∧qm (ls.headD [])=4∧∀ s∈ls.tail,qm s=3
instance (ls:List qc):Decidable (qmg ls):=inferInstanceAs (Decidable (_∧_∧_))
def ja (ls:List qc):Fld×Int:=
 if qmg ls then
  if 1000<(xz (ls.headD []) ls.tail).length then (([],[]),6) else ((ji (ls.headD []),xz (ls.headD []) ls.tail),0)
 else (([],[]),2)
theorem qob (l:qc):zn l≠[]:=by
 by_cases h:10∈l
 ·rw [qbi h];simp
 ·rw [qbj h];simp
theorem qoa (l:qc):zn l=(zn l).headD []::(zn l).tail:=by
 cases h:zn l with
 |nil=>exact absurd h (qob l)
 |cons a r=>rfl
theorem qhz:∀ (n:Nat) (l:qc),l.length≤n→(zn l).headD []++(zn l).tail.flatMap (fun s=>[10]++s)=l
 |n,l,hn=>by
  by_cases h:10∈l
  ·rw [qbi h]
   have hne:l≠[]:=fun e=>by subst e;simp at h
   have hlt:=x7 (c:=10) hne
   cases n with
   |zero=>omega
   |succ n=>
    have ih:=qhz n (past 10 l) (by omega)
    simp only [List.headD_cons,List.tail_cons]
    rw [qoa (past 10 l)]
    simp only [List.flatMap_cons]
    rw [List.append_assoc,ih]
    have:=qcf h
    simp [← this]
  ·rw [qbj h];simp
theorem qct (l:qc):∀ x∈zn l,10∉x:=fun x hx=>(qd2 l.length l (Nat.le_refl _) x hx).2
theorem qlb (l:qc):∀ x∈zn l,x.length≤l.length:=fun x hx=>(qd2 l.length l (Nat.le_refl _) x hx).1
theorem qlv (l:qc):(zn l).headD []∈zn l:=by
 have h:=qob l
 cases e:zn l with
 |nil=>exact absurd e h
 |cons a r=>simp
theorem qxc (s:qc):wu 46 (vq s)=s:=by
 unfold vq wu
 by_cases h:qbt s∨s.head? = some 46
 ·rw [if_pos h];simp
 ·rw [if_neg h,if_neg (fun h'=>h (.inr h'))]
theorem qpv (s:qc):¬ qbt (vq s):=by
 unfold vq
 by_cases h:qbt s∨s.head? = some 46
 ·rw [if_pos h]
  intro h'
  have:=h' 46 (by simp)
  revert this;decide
 ·rw [if_neg h]
  exact fun h'=>h (.inl h')
theorem qoo {s:qc} (h:10∉s):10∉vq s:=by
 unfold vq
 split
 ·simp [h]
 ·exact h
theorem qri (s:qc):(vq s).length≤s.length+1:=by
 unfold vq
 split <;> simp
theorem qq0 (s:qc) (h:10∉s):qm ([32]++vq s)=3:=by
 have hn:=qoo h
 have hb:=qpv s
 unfold qm
 have h10:10∉([32]++vq s):=by simp [hn]
 rw [if_neg h10,if_neg (fun h'=>hb fun c hc=>h' c (by simp [hc])),if_neg (by simp),if_pos ⟨32,by simp,.inl rfl⟩]
theorem qgm {k r:qc} (h:58∉k):ji (k++[58]++r)=k:=by
 unfold ji
 induction k with
 |nil=>simp
 |cons a k ih=>
  simp only [List.mem_cons,not_or] at h
  have:(58:UInt8)≠a:=h.1
  simp only [List.cons_append,List.takeWhile_cons]
  rw [if_pos (by simpa using fun e=>this e.symm)]
  rw [ih h.2]
theorem qu6 {k r:qc} (h:58∉k):w7 (k++[58]++r)=r:=by
 unfold w7
 rw [qgm h]
 rw [List.drop_append_of_le_length (by simp)]
 simp
theorem qf2 {k:qc} (h:qa5 k):∃ c,k.head? = some c∧¬ wm c∧c≠35:=by
 obtain⟨h1,h2,h3,h4,h5,h6⟩:=h
 cases k with
 |nil=>exact absurd rfl h1
 |cons a r=>exact⟨a,rfl,fun hb=>h3 ⟨a,rfl,hb⟩,fun e=>h4 (by simp [e])⟩
theorem qqz {k p:qc} (h:qa5 k) (hp:10∉p):qm (j8 k p)=4:=by
 obtain⟨c,hc,hb,h35⟩:=qf2 h
 have hk10:10∉k:=h.2.2.2.2.2
 have hk58:58∉k:=h.2.2.2.2.1
 have hh:(j8 k p).head? = some c:=by
  unfold j8
  cases k with
  |nil=>simp at hc
  |cons a r=>simpa using hc
 have e:j8 k p=k++[58]++(if p=[] then [] else [32]++p):=rfl
 have h10:10∉j8 k p:=by
  rw [e]
  split <;> simp [hk10,hp]
 have hmem:c∈j8 k p:=List.mem_of_head? hh
 unfold qm
 rw [if_neg h10,if_neg (fun h'=>hb (h' c hmem)),if_neg (by rw [hh];simpa using h35),if_neg (fun ⟨d,hd,hd'⟩=>by rw [hh] at hd;cases hd;exact hb hd')]
 rw [if_pos]
 refine⟨by rw [e];simp,?_⟩
 rw [e,qgm hk58]
 exact h
theorem q2b (k p:qc) (h:58∉k):wu 32 (w7 (j8 k p))=p:=by
 unfold j8
 rw [qu6 h]
 by_cases hp:p=[]
 ·rw [if_pos hp];simp [wu,hp]
 ·rw [if_neg hp];simp [wu]
theorem qr0 {f:Fld} (h:jm f):ja (z7 f)=(f,0):=by
 obtain⟨hk,hv⟩:=h
 have hk58:58∉f.1:=hk.2.2.2.2.1
 have h10:=qct f.2
 have hval:xz (j8 f.1 ((zn f.2).headD [])) ((zn f.2).tail.map fun s=>[32]++vq s)=f.2:=by
  unfold xz
  rw [q2b _ _ hk58]
  have:((zn f.2).tail.map fun s=>[32]++vq s).flatMap (fun s=>[10]++wu 46 (s.drop 1))=(zn f.2).tail.flatMap (fun s=>[10]++s):=by
   rw [List.flatMap_map]
   congr 1
   funext s
   simp [qxc]
  rw [this,qhz _ _ (Nat.le_refl _)]
 unfold ja z7
 rw [if_pos]
 ·simp only [List.headD_cons,List.tail_cons]
  refine (if_neg (by rw [hval];omega)).trans ?_
  have:ji (j8 f.1 ((zn f.2).headD []))=f.1:=qgm hk58
  rw [this,hval]
 ·refine⟨by simp,?_,?_⟩
  ·simp only [List.headD_cons]
   exact qqz hk (h10 _ (qlv _))
  ·intro s hs
   simp only [List.tail_cons,List.mem_map] at hs
   obtain⟨x,hx,rfl⟩:=hs
   exact qq0 x (h10 x (List.mem_of_mem_tail hx))
end Go.Pl
namespace Go.Av
open Go Go.RowKit
section
variable {E : Env} {rd : Option Nat} {N : Nat} {ops : Array Oper} {K : AS → Prop} {s : AS} {rest : List Oper} {d : Option Tmp} {T : TypeId} {p : String} {af : Array Edge}
theorem xq {t e:TypeId} {len sz:Nat} {agg:Bool} {parts:Array (Nat×Operand)} {zs cs:List AV} {st loc:List AObj} (hst:s.st=st++loc) (hu:E.P.underlying t=some (.slice e)) (ht:tyOf E.P e=some (sz,agg)) (hz:qbl E.P e len=some zs)
  (hf:y7 (fun i=>some (i * sz,sz)) zs (j7 N s parts)=some cs) (hsz:Nat.ble (len * sz) 16777216=true)
  (h:AOps E rd N ops rest K (AS.put ⟨s.t,st++(loc++[.cells 0 e cs]),s.df⟩ d (.os (st.length+loc.length) 0 0 len len))):AOps E rd N ops (⟨d,.buildSlice t len parts,T,p,af,none⟩::rest) K s:=by
 refine qs rfl (qq nofun fun B0 w0 G a w _ hI=>?_)
 obtain⟨c',hrun,h2⟩:=qgy (d:=d) (T:=T) (p:=p) (af:=af) hI hu ht hz hf hsz
 have hA:=hI.agree.newCells e c' cs h2.1 h2.2
 have hn:=hI.agree.n
 rw [hst] at hA hn
 simp only [List.append_assoc,List.length_append] at hA hn
 exact⟨_,_,_,_,_,hrun,G.le_new _ _ _ _,hA,.os _ _ _ _ _ _ (by simp [Gh.new,hn]) (Nat.zero_le _) (fun _=>by simp [Gh.new,hn]),h⟩
theorem qw.ownTip {B0:Nat} {w0:World} {G:Gh} {st:List AObj} {w:World} (h:qw B0 w0 G st w) {o sz len cap:Nat} {T:TypeId} {cs:List AV} {xs:List AV} (ho:st[o]? = some (.cells 0 T cs)) (hc:cs.length=cap * sz) (hlen:xs.length=len) (h0:0<len) (hle:len≤cap) (hcm:cap≤maxLen) (hw:∀ x∈xs,x.cells.length=sz) (hfl:flat xs=cs.take (len * sz)) :
  ∃ G',G.le G'∧qw B0 w0 G' (st.set o (.tip len sz T)) w∧Rel G' (.sl sz xs (some o)) (.slice (some ⟨(G.ob o).blk,0,none⟩) len cap):=by
 subst hlen
 have hon:=lt_of_getElem? ho
 obtain⟨g0,g1,g2,g3,c,g4,g5,g6⟩:=h.ob o _ ho
 have hle1:G.le (G.publish (G.ob o).blk (c.toList.take (xs.length * sz))):=G.le_publish _ _ [] [] (.inl g3)
 -- dead, published
 have key:∀ (k:Nat) (x:AObj),(st.set o .dead)[k]? = some x→x = .dead∨(k≠o∧st[k]? = some x):=fun k x hx=>by
  rcases getElem?_set' _ _ _ _ _ hx with⟨_,e⟩|e
  ·exact .inl e
  ·exact .inr e
 have hA1:qw B0 w0 (G.publish (G.ob o).blk (c.toList.take (xs.length * sz))) (st.set o .dead) w:=by
  refine⟨h.below,h.hB,by simp [h.n,Gh.publish],fun b vs hb=>?_,fun k x hx=>?_,fun k k' x x' hne hx hx' hl hl'=>?_⟩
  ·simp only [Gh.publish] at hb
   by_cases e:b=(G.ob o).blk
   ·rw [if_pos e] at hb
    cases hb
    subst e
    refine⟨c,T,(0,0),g4,fun i y hy=>?_⟩
    rw [List.getElem?_take] at hy
    split at hy
    ·simpa using hy
    ·simp at hy
   ·rw [if_neg e] at hb
    exact h.pub b vs hb
  ·rcases key k x hx with rfl | ⟨hk,hx⟩
   ·trivial
   ·refine (h.ob k x hx).mono hle1 rfl (fun hl=>?_) (fun _=>rfl)
    have:=h.sep k o x _ hk hx ho hl trivial
    simp [Gh.publish,this]
  ·rcases key k x hx with rfl | ⟨hk,hx⟩
   ·exact hl.elim
   ·rcases key k' x' hx' with rfl | ⟨hk',hx'⟩
    ·exact hl'.elim
    ·exact h.sep k k' x x' hne hx hx' hl hl'
 have hvl:(c.toList.take (xs.length * sz)).length=xs.length * sz:=by
  have:xs.length * sz≤cap * sz:=Nat.mul_le_mul_right _ hle
  simp
  omega
 obtain⟨hle2,hA2⟩:=hA1.setTip (t:=o) (n:=0) (n':=xs.length) (k:=(G.ob o).blk) (cap:=c.size) (sz:=sz) (T:=T) (c:=c) (vs:=c.toList.take (xs.length * sz)) (by simp [hon]) g0 g1 h0 g4 (by simp [Gh.publish]) hvl rfl g2 (fun k x hx hl=>by
  rcases key k x hx with rfl | ⟨hk,hx⟩
  ·exact hl.elim
  ·exact h.sep k o x _ hk hx ho hl trivial)
 rw [List.set_set] at hA2
 refine⟨_,hle1.trans hle2,hA2,?_⟩
 have hgn:o<G.n:=by rw [h.n];exact hon
 refine .sl sz xs (some o) (G.ob o).blk 0 cap (c.toList.take (xs.length * sz)) (by simp [Gh.setOb,Gh.publish]) hw (by rw [hfl,hvl];simp;omega) (fun i x y h1 h2=>?_) (fun t ht=>?_) (by omega)
 ·rw [hfl] at h1
  rw [Nat.zero_add] at h2
  rw [List.getElem?_take] at h1 h2
  split at h1
  ·rename_i hi
   rw [if_pos hi] at h2
   exact ((g6 i x y h1 (by simpa using h2)).mono hle1).mono hle2
  ·simp at h1
 ·simp only [Option.some.injEq] at ht
  subst ht
  refine⟨by simpa [Gh.setOb,Gh.publish] using hgn,by omega,by simp [Gh.setOb],fun _=>⟨by simp [Gh.setOb],rfl,by simp [Gh.setOb,← g5,hc],hcm,by omega⟩⟩
theorem Inv.osTip {B0:Nat} {w0:World} {G:Gh} {a:Act} {w:World} (h:Inv B0 w0 N G s a w) {i o sz len cap:Nat} {T':TypeId} {cs xs:List AV} (hi:s.t i = .os o 0 0 len cap) (ho:s.st[o]? = some (.cells 0 T' cs)) (hc:cs.length=cap * sz) (hlen:xs.length=len) (h0:0<len) (hle:len≤cap) (hcm:cap≤maxLen) (hw:∀ x∈xs,x.cells.length=sz) (hfl:flat xs=cs.take (len * sz)) :
  ∃ G',G.le G'∧Inv B0 w0 N G' ⟨Av.put s.t i (.sl sz xs (some o)),s.st.set o (.tip len sz T'),s.df⟩ a w:=by
 obtain⟨G',hG,hA,hR⟩:=h.agree.ownTip ho hc hlen h0 hle hcm hw hfl
 obtain⟨_,g1,_⟩:=h.agree.ob o _ ho
 refine⟨G',hG,hA,h.defers_mono hG,h.size,fun j y hy=>?_⟩
 have hj:=h.tmps j y hy
 by_cases e:j=i
 ·subst e
  simp only [wg]
  rw [hi] at hj
  cases hj with
  |os _ _ _ _ b _ hn hv hb=>
   have hb:=hb g1
   subst hb
   exact hR
 ·simp only
  rw [xx _ _ _ _ e]
  exact hj.mono hG
theorem q1b {c:Code} {Q:Exit→AS→Prop} (i:Nat) {o sz len cap:Nat} {T':TypeId} {cs xs:List AV} (hi:s.t i = .os o 0 0 len cap) (ho:s.st[o]? = some (.cells 0 T' cs)) (hc:cs.length=cap * sz) (hlen:xs.length=len) (h0:0<len) (hle:len≤cap) (hcm:cap≤maxLen) (hw:∀ x∈xs,x.cells.length=sz) (hfl:flat xs=cs.take (len * sz))
  (h:AWp E rd N c Q ⟨Av.put s.t i (.sl sz xs (some o)),s.st.set o (.tip len sz T'),s.df⟩):AWp E rd N c Q s:=
 ⟨fun B0 w0 G a w hL hI=>let ⟨G1,h1,h2⟩:=hI.osTip hi ho hc hlen h0 hle hcm hw hfl;wpIn_mono (h.run B0 w0 _ a w hL h2) fun _ _ _ ⟨G',s',hG,k1,k2⟩=>⟨G',s',h1.trans hG,k1,k2⟩⟩
theorem qym {l:List Oper} (i:Nat) {o sz len cap:Nat} {T':TypeId} {cs xs:List AV} (hi:s.t i = .os o 0 0 len cap) (ho:s.st[o]? = some (.cells 0 T' cs)) (hc:cs.length=cap * sz) (hlen:xs.length=len) (h0:0<len) (hle:len≤cap) (hcm:cap≤maxLen) (hw:∀ x∈xs,x.cells.length=sz) (hfl:flat xs=cs.take (len * sz))
  (h:AOps E rd N ops l K ⟨Av.put s.t i (.sl sz xs (some o)),s.st.set o (.tip len sz T'),s.df⟩):AOps E rd N ops l K s:=
 ⟨fun B0 w0 G a w hL hI Q hQ=>let ⟨G1,h1,h2⟩:=hI.osTip hi ho hc hlen h0 hle hcm hw hfl;h.run B0 w0 _ a w hL h2 Q fun G' s' a' w' hG k1 k2=>hQ G' s' a' w' (h1.trans hG) k1 k2⟩
theorem Inv.osPub {B0:Nat} {w0:World} {G:Gh} {a:Act} {w:World} (h:Inv B0 w0 N G s a w) {i o ver off sz len cap:Nat} {T':TypeId} {cs xs:List AV} (hi:s.t i = .os o ver off len cap) (ho:s.st[o]? = some (.cells ver T' cs)) (hlen:xs.length=len) (hle:len≤cap) (hw:∀ x∈xs,x.cells.length=sz) (hin:off+len * sz≤cs.length) (hfl:flat xs=(cs.drop off).take (len * sz)) :
  ∃ G',G.le G'∧Inv B0 w0 N G' ⟨Av.put s.t i (.sl sz xs none),s.st.set o .dead,s.df⟩ a w:=by
 obtain⟨vs,hle1,hA,hv,hp,hl,hr⟩:=h.agree.pubOb ho
 refine⟨_,hle1,hA,h.defers_mono hle1,h.size,fun j y hy=>?_⟩
 have hj:=h.tmps j y hy
 by_cases e:j=i
 ·subst e
  simp only [wg]
  rw [hi] at hj
  cases hj with
  |os _ _ _ _ b _ hn hv' hb=>
   have hb:=hb hv
   subst hb
   rw [← hlen]
   refine .sl sz xs none _ off cap vs hp hw (by rw [hfl];simp;omega) (fun k x y hx hy=>?_) (fun t ht=>by simp at ht) (by omega)
   rw [hfl,List.getElem?_take] at hx
   split at hx
   ·rw [List.getElem?_drop] at hx
    exact hr _ x y hx hy
   ·simp at hx
 ·simp only
  rw [xx _ _ _ _ e]
  exact hj.mono hle1
theorem qol {P:Program} {t e:TypeId} {sz:Nat} {agg:Bool} (hu:P.underlying t=some (.slice e)) (ht:tyOf P e=some (sz,agg)) (a:Option Addr) (len cap:Nat) (lo hi:Option Value) (i j:Nat) (w:World)
  (hlo:match lo with|none=>i=0|some v=>∃ k,v = .int k (i:Int)) (hhi:match hi with|none=>j=len|some v=>(∃ k,v = .int k (j:Int))∧j≤cap) (h1:i≤j) :
  (Instr.slice t (.slice a len cap) lo hi none).run P w = .ok (.slice (if cap=i then a else a.map (·.add (i * sz))) (j - i) (cap - i)) w:=by
 have hs:=(jz ht w).1
 cases lo with
 |none=>
  simp only at hlo
  subst hlo
  cases hi with
  |none=>
   simp only at hhi
   subst hhi
   simp [Instr.slice,run_underlying hu,Instr.sliceBounds,hs]
  |some v=>
   obtain⟨⟨k,rfl⟩,h2⟩:=hhi
   simp [Instr.slice,run_underlying hu,Instr.sliceBounds,Instr.sliceBound,asIntOf,hs,h2]
 |some u=>
  obtain⟨k',rfl⟩:=hlo
  cases hi with
  |none=>
   simp only at hhi
   subst hhi
   simp [Instr.slice,run_underlying hu,Instr.sliceBounds,Instr.sliceBound,asIntOf,hs,h1]
  |some v=>
   obtain⟨⟨k,rfl⟩,h2⟩:=hhi
   simp [Instr.slice,run_underlying hu,Instr.sliceBounds,Instr.sliceBound,asIntOf,hs,h1,h2]
theorem qoh {G:Gh} {sz:Nat} {xs:List AV} {tip:Option Nat} {a:Option Addr} {len cap:Nat} (h:Rel G (.sl sz xs tip) (.slice a len cap)) {i j:Nat} (h1:i≤j) (h2:j≤xs.length) :
  len=xs.length∧len≤cap∧Rel G (.sl sz ((xs.take j).drop i) none) (.slice (if cap=i then a else a.map (·.add (i * sz))) (j - i) (cap - i)):=by
 cases h with
 |sl0=>
  simp at h2
  subst h2
  have:i=0:=by omega
  subst this
  refine⟨rfl,Nat.zero_le _,?_⟩
  simp
  exact .sl0 sz none _ _ (by simp)
 |sl _ _ _ b off cap pub hp hw hlen hr ht hcap=>
  refine⟨rfl,hcap,?_⟩
  have hl:((xs.take j).drop i).length=j - i:=by simp;omega
  by_cases hji:j=i
  ·subst hji
   have e:(xs.take j).drop j=[]:=List.length_eq_zero_iff.1 (by rw [hl];omega)
   rw [e,Nat.sub_self]
   exact .sl0 sz none _ _ (by simp)
  ·have hne:cap≠i:=by omega
   rw [if_neg hne]
   simp only [Option.map_some]
   have hadd:Addr.add ⟨b,off,none⟩ (i * sz)=⟨b,off+i * sz,none⟩:=Addr.add_lit ..
   rw [hadd,← hl]
   have hw':∀ x∈(xs.take j).drop i,x.cells.length=sz:=fun x hx=>hw x (List.mem_of_mem_take (List.mem_of_mem_drop hx))
   have hfx:(flat xs).length=xs.length * sz:=zo hw
   have hsplit:flat xs=flat (xs.take i)++flat ((xs.take j).drop i)++flat (xs.drop j):=by
    have e:xs.take i++(xs.take j).drop i=xs.take j:=by
     conv=>rhs;rw [← List.take_append_drop i (xs.take j),List.take_take,Nat.min_eq_left h1]
    rw [← vf,← vf,e,List.take_append_drop]
   have hti:(flat (xs.take i)).length=i * sz:=by
    rw [zo (fun x hx=>hw x (List.mem_of_mem_take hx)),List.length_take,Nat.min_eq_left (by omega)]
   have hmid:(flat ((xs.take j).drop i)).length=(j - i) * sz:=by rw [zo hw',hl]
   refine .sl sz _ none b (off+i * sz) (cap - i) pub hp hw' ?_ (fun k x y hx hy=>?_) (fun t ht=>by simp at ht) (by rw [hl];omega)
   ·have:=congrArg List.length hsplit
    simp only [List.length_append] at this
    omega
   ·refine hr (i * sz+k) x y ?_ (by rw [← hy];congr 1;omega)
    have hk:=lt_of_getElem? hx
    rw [hsplit,List.append_assoc,List.getElem?_append_right (by omega),hti,Nat.add_sub_cancel_left,List.getElem?_append_left hk]
    exact hx
theorem qv3 {x:Operand} {t e:TypeId} {lo hi:Option Operand} {sz:Nat} {agg:Bool} {xs ys:List AV} {tip:Option Nat} {i j:Nat} (hx:qf N s x = .sl sz xs tip) (hu:E.P.underlying t=some (.slice e)) (ht:tyOf E.P e=some (sz,agg))
  (hlo:match lo with|none=>i=0|some y=>∃ k,qf N s y = .v (.int k (i:Int))) (hhi:match hi with|none=>j=xs.length|some y=>∃ k,qf N s y = .v (.int k (j:Int))) (h1:i≤j) (h2:j≤xs.length) (hy:(xs.take j).drop i=ys)
  (h:AOps E rd N ops rest K (s.put d (.sl sz ys none))):AOps E rd N ops (⟨d,.slice t x lo hi none,T,p,af,none⟩::rest) K s:=by
 subst hy
 refine qs rfl (qq nofun fun B0 w0 G a w _ hI=>?_)
 have he:=hI.eval_of hx
 generalize hv:a.eval x=v at he
 have hsl:∃ b len cap,v = .slice b len cap:=by cases he <;> exact⟨_,_,_,rfl⟩
 obtain⟨b,len,cap,rfl⟩:=hsl
 obtain⟨hl,hlc,hr⟩:=qoh he h1 h2
 refine⟨_,w,G,_,s.st,?_,.refl G,hI.agree,hr,h⟩
 have hrun:=qol hu ht b len cap (lo.map a.eval) (hi.map a.eval) i j w (by
  cases lo with
  |none=>exact hlo
  |some y=>obtain⟨k,hy⟩:=hlo;exact⟨k,hI.evalv hy⟩) (by
  cases hi with
  |none=>simp only at hhi;simp only [Option.map_none];omega
  |some y=>obtain⟨k,hy⟩:=hhi;exact⟨⟨k,hI.evalv hy⟩,by omega⟩) h1
 generalize a.eval = ρ at hv hrun
 simp only [execOp,hv]
 simp [Instr.sliceAt,run_underlying hu,hrun]
theorem qgu {x y:Operand} {t e:TypeId} {sz:Nat} {agg:Bool} {xs ys:List AV} {tip:Option Nat} {k:IntKind} {i:Nat} (hx:qf N s x = .sl sz xs tip) (hy:qf N s y = .v (.int k (i:Int))) (hu:E.P.underlying t=some (.slice e)) (ht:tyOf E.P e=some (sz,agg)) (h1:i≤xs.length) (hz:xs.drop i=ys)
  (h:AOps E rd N ops rest K (s.put d (.sl sz ys none))):AOps E rd N ops (⟨d,.slice t x (some y) none none,T,p,af,none⟩::rest) K s:=
 qv3 (i:=i) (j:=xs.length) hx hu ht ⟨k,hy⟩ rfl h1 (Nat.le_refl _) (by rw [List.take_length];exact hz) h
end
end Go.Av
namespace Go.Av
open Go Go.RowKit
inductive Vec (sz:Nat) (T:TypeId) (o:Nat) (xs:List AV):AV→AObj→Prop
 |nil (h:xs=[]):Vec sz T o xs zv (.tip 0 sz T)
 |os (ver cap:Nat) (pad:List AV) (hl:(flat xs++pad).length=cap * sz) (hw:∀ x∈xs,x.cells.length=sz) (hle:xs.length≤cap) (hcm:cap≤maxLen):Vec sz T o xs (.os o ver 0 xs.length cap) (.cells ver T (flat xs++pad))
section
variable {B0 : Nat} {w0 : World} {G : Gh} {st : List AObj} {w : World}
theorem qw.setCells (h:qw B0 w0 G st w) {t k cap v':Nat} {T:TypeId} {cs:List AV} (ht:st[t]? = some .dead) (hraw:(G.ob t).raw=false) (hver:(G.ob t).ver<v')
  {c:Array Value} (hc:w.heap[k]? = some (.cells c T (0,0))) (hp:G.pub k=none) (hl:cs.length=c.size) (hr:∀ (i:Nat) (x:AV) (y:Value),cs[i]? = some x→c[i]? = some y→Rel G x y) (hk:B0≤k) (hs:∀ o x,st[o]? = some x→x.live→(G.ob o).blk≠k) :
  G.le (G.setOb t ⟨v',k,cap,false⟩)∧qw B0 w0 (G.setOb t ⟨v',k,cap,false⟩) (st.set t (.cells v' T cs)) w:=by
 have hle:=G.le_setOb t ⟨v',k,cap,false⟩ hver hraw
 have hob:∀ o,o≠t→(G.setOb t ⟨v',k,cap,false⟩).ob o=G.ob o:=fun o ho=>by simp [Gh.setOb,ho]
 have hobt:(G.setOb t ⟨v',k,cap,false⟩).ob t=⟨v',k,cap,false⟩:=by simp [Gh.setOb]
 refine⟨hle,h.below,h.hB,by simp [h.n,Gh.setOb],h.pub,fun o x hx=>?_,fun o o' x x' hne hx hx' hl1 hl2=>?_⟩
 ·rcases getElem?_set' _ _ _ _ _ hx with⟨rfl,rfl⟩ | ⟨ho,hx⟩
  ·exact⟨by rw [hobt],by rw [hobt],by rw [hobt];exact hk,by rw [hobt];exact hp,c,by rw [hobt];exact hc,hl,fun i x y h1 h2=>(hr i x y h1 h2).mono hle⟩
  ·exact (h.ob o x hx).mono hle (hob o ho) (fun _=>rfl) (fun _=>rfl)
 ·rcases getElem?_set' _ _ _ _ _ hx with⟨e1,e2⟩ | ⟨ho,hx⟩
  ·rcases getElem?_set' _ _ _ _ _ hx' with⟨e3,_⟩ | ⟨ho',hx'⟩
   ·exact absurd (e1.trans e3.symm) hne
   ·rw [e1,hobt,hob o' ho']
    exact (hs o' x' hx' hl2).symm
  ·rcases getElem?_set' _ _ _ _ _ hx' with⟨e3,_⟩ | ⟨ho',hx'⟩
   ·rw [e3,hobt,hob o ho]
    exact hs o x hx hl1
   ·rw [hob o ho,hob o' ho']
    exact h.sep o o' x x' hne hx hx' hl1 hl2
theorem w8 {G:Gh} {cs ds:List AV} {vs us:List Value} (hl:cs.length=vs.length) (h1:∀ (i:Nat) (x:AV) (y:Value),cs[i]? = some x→vs[i]? = some y→Rel G x y) (h2:∀ (i:Nat) (x:AV) (y:Value),ds[i]? = some x→us[i]? = some y→Rel G x y) :
  ∀ (i:Nat) (x:AV) (y:Value),(cs++ds)[i]? = some x→(vs++us)[i]? = some y→Rel G x y:=fun i x y hx hy=>by
 by_cases hi:i<cs.length
 ·rw [List.getElem?_append_left hi] at hx
  rw [List.getElem?_append_left (by omega)] at hy
  exact h1 i x y hx hy
 ·rw [List.getElem?_append_right (by omega)] at hx
  rw [List.getElem?_append_right (by omega),← hl] at hy
  exact h2 _ x y hx hy
theorem qil {P:Program} (hA:qw B0 w0 G st w) {tt u ty T:TypeId} {du:TypeDesc} (htt:P.underlying tt=some (.slice T)) (hu:P.underlying u=some du) (hd:qeu du)
  {sz bytes:Nat} (hT:wh P T sz bytes) {o:Nat} {xs ys:List AV} {a:AV} {ob:AObj} {v x:Value} (hV:Vec sz T o xs a ob) (ho:st[o]? = some ob) (hv:Rel G a v)
  {news:List Value} (hx:Src P w x ys.length sz news) (hys:∀ y∈ys,y.cells.length=sz) (hrel:∀ (i:Nat) (a:AV) (b:Value),(flat ys)[i]? = some a→news[i]? = some b→Rel G a b)
  (h63:xs.length+ys.length≤maxLen) (hbytes:(xs.length+ys.length) * bytes≤140737488355328) :
  ∃ v' w' G' a' ob',(Builtin.append_ #[tt,u] ty #[v,x]).run P w = .ok v' w'∧G.le G'∧qw B0 w0 G' (st.set o ob') w'∧Rel G' a' v'∧Vec sz T o (xs++ys) a' ob':=by
 obtain⟨i,z,hi,hz,rfl,rfl,hzs⟩:=hT.ex
 have hon:=lt_of_getElem? ho
 have htn:o<G.n:=by rw [hA.n];exact hon
 have hraw:(G.ob o).raw=false:=by
  have:=hA.ob o _ ho
  cases hV with
  |nil h=>exact this.1
  |os=>exact this.1
 have hk:=hA.kill o
 have hkt:(st.set o .dead)[o]? = some .dead:=xc ho
 have hother:∀ k x,(st.set o .dead)[k]? = some x→x.live→k≠o∧st[k]? = some x:=fun k x hx hl=>by
  rcases getElem?_set' _ _ _ _ _ hx with⟨_,e⟩ | ⟨h1,h2⟩
  ·subst e;exact hl.elim
  ·exact⟨h1,h2⟩
 have hself:st.set o ob=st:=by
  apply List.ext_getElem?
  intro k
  by_cases e:o=k
  ·subst e;rw [List.getElem?_set_self hon];exact ho.symm
  ·rw [List.getElem?_set_ne e]
 have hfy:(flat ys).length=ys.length * i.size:=zo hys
 have grow:∀ (base:Option Addr) (c:Nat) (olds:List Value),(Builtin.firstCells i.size xs.length (.slice base xs.length c)).run P w.drew = .ok olds.toArray w.drew→c<xs.length+ys.length→olds.length=xs.length * i.size→(∀ x∈xs,x.cells.length=i.size) →
   (∀ (j:Nat) (a:AV) (b:Value),(flat xs)[j]? = some a→olds[j]? = some b→Rel G a b)→Builtin.nextslicecap (xs.length+ys.length) c * i.bytes≤281474976710656 →
   ∃ v' w' G' a' ob',(Builtin.append_ #[tt,u] ty #[.slice base xs.length c,x]).run P w = .ok v' w'∧G.le G'∧qw B0 w0 G' (st.set o ob') w'∧Rel G' a' v'∧Vec i.size T o (xs++ys) a' ob':=by
  intro base c olds hold hc hol hwx hrx hfit
  have hfx:(flat xs).length=xs.length * i.size:=zo hwx
  have hrun:=qay (ty:=ty) htt hu hd hi hz hx base xs.length c olds hold hc (by simp only [maxLen] at h63;omega) hfit
  have hge:=grownCap_ge w (xs.length+ys.length) c T
  have hle:=grownCap_le_maxLen w (xs.length+ys.length) c T h63
  generalize grownCap w (xs.length+ys.length) c T=cap at hrun hge hle
  generalize hzc:(Builtin.zeroCells z.cells (cap - (xs.length+ys.length)))=zc at hrun
  have hzl:zc.size=(cap - (xs.length+ys.length)) * i.size:=by rw [← hzc,size_zeroCells,hzs]
  have hdrew:Below w.heap.size w w.drew:=⟨rfl,rfl,rfl,Nat.le_refl _,fun _ _=>rfl⟩
  have hcl:(flat (xs++ys)++zc.toList.map AV.v).length=(olds.toArray++news.toArray++zc).size:=by
   rw [vf]
   simp [hfx,hfy,hol,hx.count]
   omega
  have hA1:=(hk.fresh hdrew).fresh (w':=w.drew.alloc (.cells (olds.toArray++news.toArray++zc) T)) ⟨rfl,rfl,rfl,by simp [World.alloc],fun b hb=>wz _ _ _ hb⟩
  have hnp:G.pub w.heap.size=none:=by
   cases hp:G.pub w.heap.size with
   |none=>rfl
   |some vs=>exact absurd (hA.pub_lt hp) (Nat.lt_irrefl _)
  obtain⟨hle2,hA2⟩:=hA1.setCells (t:=o) (k:=w.heap.size) (cap:=0) (v':=(G.ob o).ver+1) (T:=T) (cs:=flat (xs++ys)++zc.toList.map AV.v) hkt hraw (Nat.lt_succ_self _) (wy w.drew _) hnp hcl (by
   have h1:=w8 (G:=G) (cs:=flat xs) (ds:=flat ys) (vs:=olds) (us:=news) (by omega) hrx hrel
   have h2:=w8 (G:=G) (cs:=flat xs++flat ys) (ds:=zc.toList.map AV.v) (vs:=olds++news) (us:=zc.toList) (by simp [hfx,hfy,hol,hx.count]) h1 (fun j a b h1 h2=>by
    rw [List.getElem?_map,h2] at h1
    simp at h1
    subst h1
    exact .v _)
   rw [vf]
   intro j a b g1 g2
   exact h2 j a b g1 (by rw [← g2];simp [← Array.getElem?_toList])) hA.hB (fun k x hx hl=>by
   obtain⟨_,hx'⟩:=hother k x hx hl
   exact Nat.ne_of_lt ((hA.ob k x hx').lt hl))
  rw [List.set_set] at hA2
  refine⟨_,_,_,_,_,hrun,hle2,hA2,.os o ((G.ob o).ver+1) 0 (xs.length+ys.length) w.heap.size cap (by simpa [Gh.setOb] using htn) (by simp [Gh.setOb]) (fun _=>by simp [Gh.setOb]),?_⟩
  have:=Vec.os (o:=o) (T:=T) (xs:=xs++ys) ((G.ob o).ver+1) cap (zc.toList.map AV.v) (sz:=i.size) (by
   have h1:zc.toList.length=(cap - (xs.length+ys.length)) * i.size:=by rw [← hzl];simp
   rw [List.length_append,vf,List.length_append,hfx,hfy,List.length_map,h1,← Nat.add_mul,← Nat.add_mul]
   congr 1
   omega) (fun y hy=>by
   rcases List.mem_append.1 hy with h|h
   ·exact hwx y h
   ·exact hys y h) (by simpa using hge) hle
  rw [List.length_append] at this
  exact this
 cases hV with
 |nil h=>
  subst h
  cases hv with
  |v _=>
  by_cases hm0:ys.length=0
  ·have hy0:ys=[]:=List.eq_nil_of_length_eq_zero hm0
   subst hy0
   have hn0:news=[]:=List.eq_nil_of_length_eq_zero (by simpa using hx.count)
   subst hn0
   exact⟨_,_,G,_,_,yv htt hu hd hi hx none 0 0 (Nat.le_refl _),.refl G,by rw [hself];exact hA,.v _,.nil (by simp)⟩
  ·exact grow none 0 [] (by simp [run_firstCells_none]) (by simp;omega) (by simp) (by simp) (by simp [flat]) (by
    simp only [List.length_nil,Nat.zero_add] at hbytes ⊢
    rw [nextslicecap_zero (by omega)]
    omega)
 |os ver cap pad hl hw hle hcm=>
  obtain⟨g0,g1,g2,g3,c,g4,g5,g6⟩:=hA.ob o _ ho
  have hfx:(flat xs).length=xs.length * i.size:=zo hw
  cases hv with
  |os _ _ _ _ b _ hn hv' hb=>
  have hb:=hb g1
  subst hb
  have hcs:c.size=cap * i.size:=by rw [← g5,hl]
  by_cases hm0:ys.length=0
  ·have hy0:ys=[]:=List.eq_nil_of_length_eq_zero hm0
   subst hy0
   have hn0:news=[]:=List.eq_nil_of_length_eq_zero (by simpa using hx.count)
   subst hn0
   exact⟨_,_,G,_,_,yv htt hu hd hi hx _ xs.length cap hle,.refl G,by rw [hself];exact hA,.os _ _ _ _ _ _ hn hv' (fun _=>rfl),by rw [List.append_nil];exact .os ver cap pad hl hw hle hcm⟩
  ·by_cases hroom:xs.length+ys.length≤cap
   ·have hmul:(xs.length+ys.length) * i.size≤cap * i.size:=Nat.mul_le_mul_right _ hroom
    rw [Nat.add_mul] at hmul
    have hfit:xs.length * i.size+news.length≤c.size:=by rw [hx.count,hcs];omega
    have hrun:=qfg (ty:=ty) htt hu hd hi hx (G.ob o).blk xs.length cap c g4 hroom hfit
    have hpl:pad.length=cap * i.size - xs.length * i.size:=by
     have:=hl
     rw [List.length_append,hfx] at this
     omega
    have hA2:=hA.setRow (cs':=flat (xs++ys)++pad.drop (ys.length * i.size)) (c':=(c.toList.take (xs.length * i.size)++news++c.toList.drop (xs.length * i.size+news.length)).toArray) ho (by
     rw [vf]
     simp [hfx,hfy,hx.count,hpl,hcs,Nat.min_eq_left hle]
     omega) (by
     have e1:∀ (j:Nat) (a:AV) (b:Value),(flat xs)[j]? = some a→(c.toList.take (xs.length * i.size))[j]? = some b→Rel G a b:=fun j a b h1 h2=>by
      have hj:=lt_of_getElem? h1
      rw [List.getElem?_take_of_lt (by omega)] at h2
      exact g6 j a b (by rw [List.getElem?_append_left hj];exact h1) (by simpa using h2)
     have e2:=w8 (G:=G) (cs:=flat xs) (ds:=flat ys) (vs:=c.toList.take (xs.length * i.size)) (us:=news) (by simp;omega) e1 hrel
     have e3:=w8 (G:=G) (cs:=flat xs++flat ys) (ds:=pad.drop (ys.length * i.size)) (vs:=c.toList.take (xs.length * i.size)++news) (us:=c.toList.drop (xs.length * i.size+news.length)) (by
      simp [hfx,hfy,hx.count]
      omega) e2 (fun j a b h1 h2=>by
      rw [List.getElem?_drop] at h1 h2
      refine g6 (xs.length * i.size+news.length+j) a b ?_ (by simpa using h2)
      rw [List.getElem?_append_right (by rw [hfx];omega),hfx,← h1,hx.count]
      congr 1
      omega)
     rw [vf]
     intro j a b h1 h2
     exact e3 j a b h1 (by simpa using h2))
    refine⟨_,_,G,_,_,hrun,.refl G,hA2,.os o ver 0 (xs.length+ys.length) _ cap hn hv' (fun _=>rfl),?_⟩
    have:=Vec.os (o:=o) (T:=T) (xs:=xs++ys) ver cap (pad.drop (ys.length * i.size)) (sz:=i.size) (by
     rw [List.length_append,vf,List.length_append,hfx,hfy,List.length_drop,hpl]
     omega) (fun y hy=>by
     rcases List.mem_append.1 hy with h|h
     ·exact hw y h
     ·exact hys y h) (by simpa using hroom) hcm
    rw [List.length_append] at this
    exact this
   ·refine grow (some ⟨(G.ob o).blk,0,none⟩) cap (c.toList.take (xs.length * i.size)) ?_ (by omega) (by
     have:xs.length * i.size≤cap * i.size:=Nat.mul_le_mul_right _ hle
     simp
     omega) hw (fun j a b h1 h2=>?_) (growslice_fits (by omega) hbytes)
    ·refine run_firstCells_some w.drew i.size xs.length ⟨(G.ob o).blk,0,none⟩ xs.length cap _ (by
      have:xs.length * i.size≤cap * i.size:=Nat.mul_le_mul_right _ hle
      simp
      omega) fun j y hy=>?_
     have e1':w.drew.heap[(G.ob o).blk]? = some (.cells c T (0,0)):=g4
     rw [Addr.add_lit]
     rw [List.getElem?_take] at hy
     split at hy
     ·simp only [Array.getElem?_toList] at hy
      simp [World.cell?,e1',hy]
     ·simp at hy
    ·have hj:=lt_of_getElem? h1
     rw [List.getElem?_take_of_lt (by omega)] at h2
     exact g6 j a b (by rw [List.getElem?_append_left hj];exact h1) (by simpa using h2)
end
section
variable {E : Env} {rd : Option Nat} {N : Nat} {ops : Array Oper} {K : AS → Prop} {s : AS} {rest : List Oper} {d : Option Tmp} {T : TypeId} {p : String} {af : Array Edge}
theorem qvs {sz:Nat} {T:TypeId} {o:Nat} {xs:List AV} {a:AV} {ob:AObj} (h:Vec sz T o xs a ob):(xs=[]∧a=zv∧ob = .tip 0 sz T)∨∃ ver cap pad,a = .os o ver 0 xs.length cap∧ob = .cells ver T (flat xs++pad)∧(flat xs++pad).length=cap * sz∧(∀ x∈xs,x.cells.length=sz)∧xs.length≤cap∧cap≤maxLen:=by
 cases h with
 |nil h=>exact .inl ⟨h,rfl,rfl⟩
 |os ver cap pad h1 h2 h3 h4=>exact .inr ⟨ver,cap,pad,rfl,rfl,h1,h2,h3,h4⟩
theorem qtv {sz:Nat}:∀ {xs:List AV} {i:Nat} {x:AV},(∀ x∈xs,x.cells.length=sz)→x.cells.length=sz→i<xs.length→∀ pad,zh (flat xs++pad) (0+i * sz) x.cells=flat (xs.set i x)++pad
 | [],_,_,_,_,h,_=>by simp at h
 |y::xs,0,x,hw,hx,_,pad=>by
  have hy:=hw y (by simp)
  simp only [List.set_cons_zero,yz,zh,Nat.zero_mul,Nat.zero_add,List.take_zero,List.nil_append,hx]
  rw [List.append_assoc,List.drop_append_of_le_length (by omega),← hy,List.drop_length]
  simp
 |y::xs,i+1,x,hw,hx,h,pad=>by
  have hy:=hw y (by simp)
  have ih:=qtv (xs:=xs) (i:=i) (x:=x) (fun z hz=>hw z (by simp [hz])) hx (by simpa using h) pad
  simp only [List.set_cons_succ,yz,zh,Nat.zero_add] at ih ⊢
  have e:(i+1) * sz=y.cells.length+i * sz:=by rw [Nat.add_mul,hy];omega
  simp only [List.append_assoc] at ih ⊢
  rw [e,List.take_length_add_append,show y.cells.length+i * sz+x.cells.length=y.cells.length+(i * sz+x.cells.length) by omega,List.drop_length_add_append]
  simp only [List.append_assoc]
  rw [ih]
theorem qx9 {sz:Nat} {xs pad:List AV} (hw:∀ x∈xs,x.cells.length=sz) {i:Nat} {x:AV} (hi:xs[i]? = some x):((flat xs++pad).drop (i * sz)).take sz=x.cells:=by
 have hlt:=lt_of_getElem? hi
 have hx:=hw x (List.mem_of_getElem? hi)
 apply List.ext_getElem?
 intro j
 rw [List.getElem?_take]
 by_cases hj:j<sz
 ·rw [if_pos hj,List.getElem?_drop,← qhk hw hi j hj]
  have hle:(i+1) * sz≤xs.length * sz:=Nat.mul_le_mul_right _ hlt
  rw [Nat.succ_mul] at hle
  rw [List.getElem?_append_left (by rw [zo hw];omega)]
 ·rw [if_neg hj,List.getElem?_eq_none (by omega)]
end
structure Chg (N:Nat) (s s':AS):Prop where
 run:∀ (B0:Nat) (w0:World) (G:Gh) (a:Act) (w:World),Inv B0 w0 N G s a w→∃ G',G.le G'∧Inv B0 w0 N G' s' a w
theorem Chg.trans {N:Nat} {s s' s'':AS} (h:Chg N s s') (k:Chg N s' s''):Chg N s s'':=⟨fun B0 w0 G a w hI=>let ⟨G1,h1,h2⟩:=h.run B0 w0 G a w hI;let ⟨G2,k1,k2⟩:=k.run B0 w0 G1 a w h2;⟨G2,h1.trans k1,k2⟩⟩
end Go.Av
namespace Go.Proofs.YtejoahlpbckbeaaGreatDoor
open Go Go.Av Go.RowKit Go.Proofs Go.Pl
abbrev Ss (xs:List qc):AV:=.sl 1 (xs.map fun x=>Sv x) none
theorem qvq (l m:List UInt8) (st:List AObj):qn E 63 [Sv l,Sv m] st fun r st'=>r=Sv (Lib.trimPrefix l m)∧st'=st:=
 qa0 (vals:= #[.string ⟨l.toArray⟩,.string ⟨m.toArray⟩]) rfl fun _ _ w _ _=>(Tryz.strings_TrimPrefix ⟨l.toArray⟩ ⟨m.toArray⟩ w).mono fun _ _ ⟨h1,h2⟩=>⟨h1,qgg h2⟩
theorem qx8 (l:List UInt8) (c:UInt8) (st:List AObj):qn E 63 [Sv l,Sv [c]] st fun r st'=>r=Sv (wu c l)∧st'=st:=by
 rw [← qpy]
 exact qvq _ _ _
theorem q0g {B0:Nat} {w0:World} {G:Gh} {st:List AObj} {w:World} (hA:qw B0 w0 G st w) {xs:List qc} {tip:Option Nat} {v:Value} (h:Rel G (.sl 1 (xs.map fun x=>Sv x) tip) v) :
  (xs=[]∧∃ a c,v = .slice a 0 c)∨∃ b off cap,v = .slice (some ⟨b,off,none⟩) xs.length cap∧b<w.heap.size∧xs.length≤cap∧∀ (j:Nat) (x:qc),xs[j]? = some x→w.cell? ⟨b,off+j,none⟩=some (.string ⟨x.toArray⟩):=by
 generalize hq:xs.map (fun x=>Sv x)=q at h
 cases h with
 |sl0 sz tip base cap ht=>exact .inl ⟨by simpa using hq,base,cap,rfl⟩
 |sl _ _ _ b off cap pub hp hw hlen hr ht hcap=>
  subst hq
  obtain⟨c,T,fz,hc,hcc⟩:=hA.pub b pub hp
  refine .inr ⟨b,off,cap,by simp,hA.pub_lt hp,by simpa using hcap,fun j x hx=>?_⟩
  have hfl:flat (xs.map fun x=>Sv x)=xs.map fun x=>Sv x:=by
   clear hx hr hlen hw ht hcap
   induction xs with
   |nil=>rfl
   |cons a xs ih=>rw [List.map_cons,yz,ih];rfl
  have hj:=lt_of_getElem? hx
  rw [hfl] at hlen
  simp only [List.length_map] at hlen
  have hy:pub[off+j]? = some (pub[off+j]'(by omega)):=List.getElem?_eq_getElem (by omega)
  have hrj:=hr j (Sv x) _ (by rw [hfl,List.getElem?_map,hx];rfl) hy
  generalize hz:pub[off+j]'(by omega)=z at hrj hy
  generalize hSx:Sv x=sx at hrj
  cases hrj <;> simp_all
  subst_vars
  simp [World.cell?,hc,hcc _ _ hy]
theorem q2g (xs:List qc) (tip:Option Nat) (sep:qc) (st:List AObj) (hN:xs.length≤140737488355328) (hl:(Lib.join xs sep).length≤140737488355328):qn E 123 [.sl 1 (xs.map fun x=>Sv x) tip,Sv sep] st fun r st'=>r=Sv (Lib.join xs sep)∧st'=st:=by
 refine⟨fun B0 w0 G vs w hL hA hR=>?_⟩
 have hs:vs.size=2:=by have:=hR.1;simpa using this.symm
 have e0:vs[0]? = some vs[0]:=by simp [hs]
 have e1:vs[1]? = some vs[1]:=by simp [hs]
 have h0:=hR.2 0 _ _ rfl e0
 have h1:=hR.2 1 _ _ rfl e1
 have hv1:vs[1] = .string ⟨sep.toArray⟩:=by generalize vs[1]=y at h1;cases h1;rfl
 have hvs:vs = #[vs[0],.string ⟨sep.toArray⟩]:=by
  apply Array.ext (by simp [hs])
  intro i g1 g2
  match i with
  | 0=>rfl
  | 1=>exact hv1
  |i+2=>simp [hs] at g1;omega
 rw [hvs]
 rcases q0g hA h0 with⟨hx,a,c,hv⟩ | ⟨b,off,cap,hv,hb,hcap,hcell⟩
 ·rw [hv]
  subst hx
  refine (Tryz.strings_Join_none a c ⟨sep.toArray⟩ w).mono ?_
  rintro e w' ⟨rfl,rfl⟩
  exact⟨_,G,Sv [],st,rfl,.refl G,hA,.v _,rfl,rfl⟩
 ·rw [hv]
  have hm:(xs.map fun l:qc=>(⟨l.toArray⟩:ByteArray)).map (·.data.toList)=xs:=by simp [List.map_map,Function.comp_def]
  have hc:=Tryz.strings_Join b off cap (xs.map fun l=>⟨l.toArray⟩) ⟨sep.toArray⟩ w (fun j x hx=>by
   rw [List.getElem?_map] at hx
   cases hq:xs[j]? with
   |none=>rw [hq] at hx;simp at hx
   |some y=>rw [hq] at hx;simp at hx;subst hx;exact hcell j y hq) hb (by simpa using hN) (by simpa using hcap) (by rw [hm];simpa using hl)
  rw [hm] at hc
  simp only [List.length_map] at hc
  refine hc.mono ?_
  rintro e w' ⟨rfl,hbw⟩
  exact⟨_,G,Sv _,st,rfl,.refl G,hA.fresh hbw,.v _,rfl,rfl⟩
def Weak (x r:AV):Prop:=∀ (G:Gh) (v:Value),Rel G x v→Rel G r v
theorem qrp (x:AV):Weak x x:=fun _ _ h=>h
theorem qij (sz:Nat) (xs:List AV) (tip:Option Nat):Weak (.sl sz xs tip) (.sl sz xs none):=fun _ _ h=>qju h
theorem q0p (sz:Nat):Weak zv (.sl sz [] none):=fun _ _ h=>y0 h
theorem qvu {x y x' y':AV} (h1:Weak x x') (h2:Weak y y'):Weak (.tu [x,y]) (.tu [x',y']):=fun G v h=>by
 cases h with
 |tu _ vs hl hr=>
  refine .tu _ vs hl fun i a b ha hb=>?_
  match i with
  | 0=>simp at ha;subst ha;exact h1 G b (hr 0 x b rfl hb)
  | 1=>simp at ha;subst ha;exact h2 G b (hr 1 y b rfl hb)
  |i+2=>simp at ha
theorem qyo {fn:Func} {s:AS} {t u:Tmp} {x y x' y':AV} (hr:fn.results = #[.tmp t,.tmp u]) (hx:qf fn.ntmps s (.tmp t)=x) (hy:qf fn.ntmps s (.tmp u)=y) (h1:Weak x x') (h2:Weak y y'):ARes E fn s (.tu [x',y']):=
 yy (qey hr) (by rw [hx,hy];exact qvu h1 h2)
def errN (n:Int):AV:=if n=0 then .v .nilIface else .ifc 53 (Iv n)
theorem qfy (n:Int):Pure (errN n):=by
 unfold errN
 split
 ·exact q8 _
 ·exact qc3 (q8 _)
theorem qg3 {n:Int} (h:n≠0):errN n = .ifc 53 (Iv n):=if_neg h
theorem qk3 (f:FldV) (st:List AObj) (hl:f.1.length<4294967281):qn E 173 [fldA f] st fun r st'=>r=errN (ka f)∧st'=st:=by
 refine zz (qfy _) (qx Tryz.func173 rfl (Nat.le_of_ble_eq_true rfl) ?_)
 repeat' (first|apply qt|apply za|apply qj|apply qi|apply qk|(apply q7;(iterate 3 exact rfl))|(apply wx;exact rfl)|(apply qh;exact rfl;apply cd_n <;> intro h)|(apply qh;exact rfl;apply cd_d <;> intro h)|(apply yx;(iterate 3 exact rfl))|(apply ku;exact rfl;exact rfl)|(apply qcw;(iterate 4 exact rfl))|(apply jg;(iterate 3 exact rfl))|(apply km;(iterate 5 exact rfl))|apply q9|apply zi|(apply q5;exact Tryz.call207;exact q6t _ _ hl))
 all_goals refine qv rfl (zw rfl) ⟨(?_:_=_),_,rfl⟩
 ·have e:ka f=5:=if_pos (by simp_all)
  rw [e];rfl
 ·have e:ka f=6:=(if_neg (by simp_all)).trans (if_pos (by omega))
  rw [e];rfl
 ·have e:ka f=0:=(if_neg (by simp_all)).trans (if_neg (by omega))
  rw [e];rfl
theorem qe3 (f:FldV) (st:List AObj) (hl:f.1.length<4294967281) (h:ka f=0):qn E 173 [fldA f] st fun r st'=>r = .v .nilIface∧st'=st:=by
 have:=qk3 f st hl
 rw [h] at this
 exact this
theorem qe4 (f:FldV) (st:List AObj) (hl:f.1.length<4294967281) (h:ka f≠0):qn E 173 [fldA f] st fun r st'=>r = .ifc 53 (Iv (ka f))∧st'=st:=by
 have:=qk3 f st hl
 rw [qg3 h] at this
 exact this
theorem q3o (s:List UInt8) (st:List AObj) (hl:s.length<4294967281):qn E 175 [Sv s] st fun r st'=>r=Sv (vq s)∧st'=st:=by
 refine zz (q8 _) (qx Tryz.func175 rfl (Nat.le_of_ble_eq_true rfl) ?_)
 have hb:Lib.trimS s [32,9]=[]↔qbt s:=by rw [qro];simp [wm,qbt]
 repeat' (first|apply qt|apply qj|apply qi|apply ql|apply qk|(apply xa;(iterate 3 exact rfl))|(apply jr;(iterate 4 exact rfl))|(apply qlu;exact cAo)|(apply qjb;exact cAo)|(apply qhn <;> intro h)|(apply zf;exact rfl;apply qkj;exact cAo)|(apply zf;exact rfl;apply qsj;exact cAo)|(apply qh;exact rfl;apply cd_t;exact cRa)|(apply qh;exact rfl;apply cd_d <;> intro h)|(apply qae;exact rfl;exact rfl;exact cOs)|apply q9|apply zi|(apply q5;exact Tryz.call205;exact q9r _ _ _ (by omega) rfl rfl)|(apply q5;exact Tryz.call125;exact qe7 _ _ _))
 all_goals refine qv rfl (zw rfl) ⟨congrArg (fun l:qc=>Sv l) (?_:_=vq s),_,rfl⟩
 all_goals unfold vq
 all_goals simp_all
theorem q82 (xs:List qc):Pure (Ss xs):=q27 xs
theorem q0d (l p:qc) (r:List qc) (st:List AObj) (hl:l.length<4294967281) (h:zn l=p::r):qn E 174 [Sv l,Sv [10]] st fun x st'=>x = .sl 1 (Sv p::r.map fun x=>Sv x) none∧st'=st:=by
 have:=q3m l st hl
 rw [h] at this
 exact this
def qe8 (f:FldV):AV:=.tu [Ss (if ka f=0 then z7 f else []),errN (ka f)]
theorem qwr (f:FldV):Pure (qe8 f):=qes fun x hx=>by
 simp only [List.mem_cons,List.not_mem_nil,or_false] at hx
 rcases hx with rfl|rfl
 ·exact q82 _
 ·exact qfy _
set_option maxHeartbeats 2000000 in
theorem qk4 (f:FldV) (st:List AObj) (hl:f.1.length<4294967281) (hv:f.2.length<1000000):qn E 119 [fldA f] st fun r st'=>r=qe8 f∧st'=st:=by
 refine zz (qwr _) (qx Tryz.func119 rfl (Nat.le_of_ble_eq_true rfl) ?_)
 by_cases hc:ka f=0
 ·obtain⟨p,r,hp⟩:∃ p r,zn f.2=p::r:=⟨_,_,qoa f.2⟩
  have hpl:p.length≤f.2.length:=qlb f.2 p (by rw [hp];simp)
  have hrl:∀ x∈r,x.length≤f.2.length:=fun x hx=>qlb f.2 x (by rw [hp];simp [hx])
  have hrn:r.length≤f.2.length:=by have:=qd6 _ f.2 (Nat.le_refl _);rw [hp] at this;simpa using this
  repeat' (first|(apply xq;(iterate 6 exact rfl))|(apply q1a;(iterate 5 exact rfl);kernel_rfl)|apply qt|apply za|apply qj|apply qi|apply ql|apply qk|(apply xa;(iterate 3 exact rfl))|(apply qh;exact rfl;apply cd_f;exact cRa)|(apply qh;exact rfl;apply cd_d <;> intro h)|(apply jx;(iterate 4 exact rfl))|(apply qae;exact rfl;exact rfl;exact cOs)|(apply qbn;exact rfl;exact rfl)|(apply qcw;(iterate 4 exact rfl))|(apply jg;(iterate 3 exact rfl))|(apply j9;(iterate 3 exact rfl))|(apply km;(iterate 5 exact rfl))|(apply kp;(iterate 11 exact rfl))|(apply qgu;(iterate 4 exact rfl);(first|assumption|omega|exact Nat.succ_le_succ (Nat.zero_le _)|(simp;omega));exact rfl)|apply qs6|(apply qp9;exact rfl;exact rfl;exact cOs)|(apply qm2;(iterate 3 exact rfl))|(apply qkv;(iterate 5 exact rfl))|apply qoy|apply q9|(apply q5;exact Tryz.call173;exact qe3 _ _ hl hc)|(apply q5;exact Tryz.call174;exact q0d _ _ _ _ (by omega) hp)|(apply vp (n:=0);(iterate 6 exact rfl))|(apply qs5 (n:=0);(iterate 6 exact rfl))|(apply qm0 (n:=0);(iterate 5 exact rfl);omega))
  all_goals refine q1b 6 (o:=st.length+1) (sz:=1) (len:=1) (cap:=1) (xs:=[Sv (j8 f.1 p)]) (T':=9) rfl (xg rfl) rfl rfl (by omega) (Nat.le_refl _) (by decide) (by simp [AV.cells]) ?_ ?_
  ·exact congrArg (fun l:qc=>[Sv l]) (by unfold j8;rw [if_neg h]:j8 f.1 p=f.1++[58]++([32]++p))
  rotate_left
  ·exact congrArg (fun l:qc=>[Sv l]) (by unfold j8;rw [if_pos (Classical.not_not.1 h),List.append_nil]:j8 f.1 p=f.1++[58])
  all_goals
   have hre:qe8 f = .tu [Ss (j8 f.1 p::r.map fun s=>[32]++vq s),.v .nilIface]:=by
    unfold qe8 z7
    rw [if_pos hc,hc,hp]
    rfl
   rw [hre]
   have hst:∀ s,(vq s).length≤s.length+1:=qri
   refine qfp r (fun pre s=>StE [(6,.sl 1 (Sv (j8 f.1 p)::pre.map (fun s=>Sv ([32]++vq s))) (some (st.length+1))),(35,.sl 1 (r.map fun x=>Sv x) none),(36,Iv r.length),(37,Iv pre.length)] st [.cells 0 130 [Sv f.1,Sv f.2],.tip (pre.length+1) 1 9] s) (qpt ⟨rfl,rfl,congrArg (fun n:Nat=>Iv (n:Int)) (List.length_map ..),rfl,trivial⟩ (qpp st _ 1 _)) ?_ ?_
   ·rintro _ ⟨t,ext,rfl⟩
    repeat' (first|apply qt|apply qj|apply qi|apply ql|apply qk|(apply q7;(iterate 3 exact rfl))|(apply qh;exact rfl;apply y4;exact cAo)|apply vt|apply zi)
    refine qv rfl (qyo rfl rfl rfl (qij _ _ _) (qrp _)) ⟨?_,qka _ _ _ _⟩
    simp only [Ss,List.map_cons,List.map_map]
    rfl
   ·rintro pre a rest _ hr ⟨t,ext,rfl⟩
    have hlen:r.length=pre.length+(rest.length+1):=by rw [hr];simp
    have hget:(r.map fun x=>Sv x)[pre.length]? = some (Sv a):=by rw [hr];simp
    have ha:a.length≤f.2.length:=hrl a (by rw [hr];simp)
    have hsa:=hst a
    repeat' (first|apply qt|apply za|apply qj|apply qi|apply ql|apply qk|(apply q7;(iterate 3 exact rfl))|(apply qh;exact rfl;apply xk;exact cAo)|(apply qae;exact rfl;exact rfl;exact cOs)|(apply jj;exact rfl;exact rfl;exact zy (by omega) (by omega))|(apply j9;(iterate 3 exact rfl))|(apply qfm;(iterate 9 exact rfl))|apply q9|(apply q5;exact Tryz.call175;exact q3o _ _ (by omega))|(apply vp (n:=pre.length);(iterate 5 exact rfl);exact hget)|(apply qmo (n:=pre.length+1) (m:=1) (sz:=1) (bytes:=16);(iterate 4 exact rfl);simp;exact rfl;exact rfl;exact⟨⟨_,_,rfl,rfl,rfl,rfl,rfl⟩⟩;exact rfl;exact rfl;(unfold maxLen;omega);omega;exact rfl))
    refine qjx ⟨?_,rfl,rfl,?_,trivial⟩ ?_
    ·exact q55 _ (fun s=>Sv ([32]++vq s)) pre a _ rfl
    ·exact q8d pre a
    ·rw [qfh pre a];rfl
 ·skip
  repeat' (first|apply qt|apply qj|apply qi|apply ql|apply qk|(apply qh;exact rfl;apply cd_t;exact cRa)|(apply qbm;exact rfl;exact rfl)|(apply qcw;(iterate 4 exact rfl))|(apply km;(iterate 5 exact rfl))|apply zi|(apply q5;exact Tryz.call173;exact qe4 _ _ hl hc))
  refine qv rfl (yy (r':=.tu [Ss [],.ifc 53 (Iv (ka f))]) (qey rfl) (qvu (q0p _) (qrp _))) ⟨?_,_,rfl⟩
  unfold qe8
  rw [if_neg hc,qg3 hc]
theorem qks {rd:Option Nat} {N:Nat} {ops:Array Oper} {K:AS→Prop} {s:AS} {rest:List Oper} {d:Option Tmp} {T:TypeId} {p:String} {af:Array Edge} {st loc:List AObj} (hst:s.st=st++loc)
  (h:AOps E rd N ops rest K (AS.put ⟨s.t,st++(loc++[bldO 0 (.v (.pointer none)) [] (st.length+(loc.length+1)),.tip 0 1 5]),s.df⟩ d (.bx (st.length+loc.length) 0 0))):AOps E rd N ops (⟨d,.alloc 136,T,p,af,none⟩::rest) K s:=by
 refine vo hst rfl ?_
 have e:∀ (t:Nat→AV) (st':List AObj) (df:List Nat) (x:AV),(AS.put ⟨t,st',df⟩ d x).st=st':=fun t st' df x=>by cases d <;> rfl
 have e2:∀ (t:Nat→AV) (st' st2:List AObj) (df:List Nat) (x:AV),(⟨(AS.put ⟨t,st',df⟩ d x).t,st2,(AS.put ⟨t,st',df⟩ d x).df⟩:AS)=AS.put ⟨t,st2,df⟩ d x:=fun t st' st2 df x=>by cases d <;> rfl
 refine qs1 (o:=st.length+loc.length) (j:=1) (sz:=1) (T':=5) (T1:=136) (ver:=0) (cs:=[.v (.pointer none),zv]) ?_ rfl ?_
 ·rw [e,← List.append_assoc,List.getElem?_append_right (by simp)]
  simp
  rfl
 ·rw [e,e2]
  have hx:(st++(loc++[AObj.cells 0 136 [.v (.pointer none),zv]])).set (st.length+loc.length) (.cells 0 136 ([AV.v (.pointer none),zv].set 1 (.sl 1 [] (some (st++(loc++[AObj.cells 0 136 [.v (.pointer none),zv]])).length))))++[AObj.tip 0 1 5]
    = st++(loc++[bldO 0 (.v (.pointer none)) [] (st.length+(loc.length+1)),.tip 0 1 5]):=by
   rw [qpp,List.append_assoc,List.set_append_right _ _ (Nat.le_refl _)]
   simp
  have h':=h
  rw [← hx] at h'
  exact h'
theorem qm5 (st loc ext new loc':List AObj) (k kt ver:Nat) (q:AV) (l m:List UInt8) (hk:loc[k]? = some (bldO ver q l (st.length+kt))) (hkt:loc[kt]? = some (.tip l.length 1 5)) (hq:q = .v (.pointer none)∨q = .bx (st.length+k) ver 0)
  (hlen:l.length+m.length≤140737488355328) (hl:loc'=(loc.set k (bldO ver (.bx (st.length+k) ver 0) (l++m) (st.length+kt))).set kt (.tip (l++m).length 1 5)) :
  qn E 71 [.bx (st.length+k) ver 0,Sv m] (((st++loc)++ext)++new) fun r st'=>r = .tu [Iv m.length,.v .nilIface]∧st'=((st++loc')++ext)++new:=by
 refine (q4f (st.length+k) ver (st.length+kt) q l m _ (qb7 hk) (qb7 hkt) hq hlen).mono fun r st' ⟨h1,h2⟩=>⟨h1,?_⟩
 have hk1:=lt_of_getElem? hk
 have hk2:=lt_of_getElem? hkt
 rw [h2,qg9 _ hk1,qg9 _ (by simpa using hk2),hl,List.length_append]
theorem qkw (st loc ext new loc':List AObj) (k kt ver:Nat) (q:AV) (l:List UInt8) (hk:loc[k]? = some (bldO ver q l (st.length+kt))) (hkt:loc[kt]? = some (.tip l.length 1 5)) (hl:loc'=loc.set kt .dead) :
  qn E 74 [.bx (st.length+k) ver 0] (((st++loc)++ext)++new) fun r st'=>r=Sv l∧st'=((st++loc')++ext)++new:=by
 refine (q1d (st.length+k) ver (st.length+kt) q l _ (qb7 hk) (qb7 hkt)).mono fun r st' ⟨h1,h2⟩=>⟨h1,?_⟩
 rw [h2,qg9 _ (lt_of_getElem? hkt),hl]
theorem qvn:∀ (r:List qc),(q6 (r.map fun s=>[32]++vq s)).length≤3 * (r.flatMap fun s=>[10]++s).length
 | []=>by simp [q6]
 |a::r=>by
  have ih:=qvn r
  have:=qri a
  simp only [q6,List.map_cons,List.flatMap_cons,List.length_append,List.length_cons,List.length_nil] at ih ⊢
  omega
theorem yh (a b:List qc):q6 (a++b)=q6 a++q6 b:=by simp [q6]
theorem qjz (s:qc):q6 [s]=s++[10]:=by simp [q6]
theorem qlf:∀ (l:List qc),l.length≤(q6 l).length
 | []=>by simp
 |a::r=>by
  have ih:=qlf r
  simp only [q6,List.flatMap_cons,List.length_append,List.length_cons,List.length_nil] at ih ⊢
  omega
theorem q17 (a b:List Fld):js (a++b)=js a++js b:=by simp [js]
theorem q18 (f:Fld):js [f]=q6 (z7 f):=by simp [js]
theorem qnw {f:Fld} (h:jm f):(q6 (z7 f)).length≤5000:=by
 obtain⟨hk,hv⟩:=h
 have h1:=qvn (zn f.2).tail
 have h2:=congrArg List.length (qhz _ f.2 (Nat.le_refl _))
 have h3:(j8 f.1 ((zn f.2).headD [])).length≤32+2+((zn f.2).headD []).length:=by
  have:=hk.2.1
  unfold j8
  split <;> simp <;> omega
 have e:z7 f=[j8 f.1 ((zn f.2).headD [])]++(zn f.2).tail.map fun s=>[32]++vq s:=rfl
 rw [e,yh,qjz]
 simp only [List.length_append,List.length_cons,List.length_nil] at h2 ⊢
 omega
theorem qfz:∀ (xs:List Fld),(∀ f∈xs,jm f)→(js xs).length≤5000 * xs.length
 | [],_=>by simp [js]
 |f::r,h=>by
  have ih:=qfz r fun x hx=>h x (by simp [hx])
  have h1:=qnw (h f (by simp))
  have e:js (f::r)=q6 (z7 f)++js r:=by simp [js]
  rw [e,List.length_append,List.length_cons]
  omega
def errF:List Fld→Int
 | []=>0
 |f::r=>if ka f≠0 then ka f else errF r
theorem qi6:∀ (xs:List Fld),errF xs=0↔∀ f∈xs,jm f
 | []=>by simp [errF]
 |f::r=>by
  have ih:=qi6 r
  unfold errF
  by_cases h:ka f≠0
  ·rw [if_pos h]
   have hg:¬ jm f:=fun hg=>h ((yj f).2 hg)
   simp [h,hg]
  ·have hg:=(yj f).1 (Classical.not_not.1 h)
   rw [if_neg h,ih]
   simp [hg]
theorem qxm:∀ {pre:List Fld} {f:Fld} {r:List Fld},(∀ x∈pre,jm x)→ka f≠0→errF (pre++f::r)=ka f
 | [],f,r,_,h=>by simp [errF,h]
 |x::pre,f,r,hp,h=>by
  have:=(yj x).2 (hp x (by simp))
  simp only [List.cons_append,errF,this]
  rw [if_neg (by simp)]
  exact qxm (fun y hy=>hp y (by simp [hy])) h
theorem qtw (f:FldV) (st:List AObj) (hl:f.1.length<4294967281) (hv:f.2.length<1000000) (h:ka f=0):qn E 119 [fldA f] st fun r st'=>r = .tu [Ss (z7 f),.v .nilIface]∧st'=st:=by
 have:=qk4 f st hl hv
 unfold qe8 at this
 rw [if_pos h,h] at this
 exact this
theorem qtx (f:FldV) (st:List AObj) (hl:f.1.length<4294967281) (hv:f.2.length<1000000) (h:ka f≠0):qn E 119 [fldA f] st fun r st'=>r = .tu [Ss [],.ifc 53 (Iv (ka f))]∧st'=st:=by
 have:=qk4 f st hl hv
 unfold qe8 at this
 rw [if_neg h,qg3 h] at this
 exact this
def qnk (xs:List Fld):AV:=.tu [Sv (if errF xs=0 then js xs else []),errN (errF xs)]
theorem qzj (xs:List Fld):Pure (qnk xs):=qes fun x hx=>by
 simp only [List.mem_cons,List.not_mem_nil,or_false] at hx
 rcases hx with rfl|rfl
 ·exact q8 _
 ·exact qfy _
structure q6m (xs:List FldV):Prop where
 len:xs.length<1000000
 val:∀ f∈xs,f.1.length<4294967281∧f.2.length<1000000
set_option maxHeartbeats 2000000 in
theorem zaj (xs:List FldV) (st:List AObj) (hx:q6m xs):qn E 70 [zr xs] st fun r st'=>r=qnk xs∧st'=st:=by
 refine zz (qzj _) (qx Tryz.func70 rfl (Nat.le_of_ble_eq_true rfl) ?_)
 have hxl:=hx.len
 repeat' (first|(apply qks;exact rfl)|apply qt|apply za|apply qj|apply qi|apply ql|apply qk|(apply jx;(iterate 4 exact rfl)))
 refine qfp xs (fun pre s=>(∀ f∈pre,jm f)∧∃ q,(q = .v (.pointer none)∨q = .bx (st.length+0) 0 0)∧StE [(4,.bx (st.length+0) 0 0),(11,zr xs),(12,Iv xs.length),(13,Iv pre.length)] st [bldO 0 q (js pre) (st.length+1),.tip (js pre).length 1 5] s) ⟨by simp,_,.inl rfl,qpt ⟨rfl,rfl,congrArg (fun n:Nat=>Iv (n:Int)) (List.length_map ..),rfl,trivial⟩ rfl⟩ ?_ ?_
 ·rintro _ ⟨hg,q,hq,t,ext,rfl⟩
  repeat' (first|apply qt|apply qj|apply qi|apply qk|(apply q7;(iterate 3 exact rfl))|(apply qh;exact rfl;apply y4;exact cAo)|apply vt|apply zi|(refine q5 Tryz.call74 (qkw st _ _ _ _ 0 1 0 _ _ rfl rfl rfl) ?_))
  refine qv rfl (qey rfl) ⟨?_,qka _ _ _ _⟩
  unfold qnk
  have h0:=(qi6 xs).2 hg
  rw [if_pos h0,h0]
  rfl
 ·rintro pre f rest _ hr ⟨hg,q,hq,t,ext,rfl⟩
  have hlen:xs.length=pre.length+(rest.length+1):=by rw [hr];simp
  have hget:(xs.map fldA)[pre.length]? = some (fldA f):=by rw [hr];simp
  obtain⟨hf1,hf2⟩:=hx.val f (by rw [hr];simp)
  by_cases hc:ka f=0
  ·have hgf:=(yj f).1 hc
   have hb1:=qfz pre hg
   have hb2:=qnw hgf
   repeat' (first|apply qt|apply za|apply qj|apply qi|apply ql|apply qk|(apply vl;exact rfl;exact rfl)|(apply q7;(iterate 3 exact rfl))|(apply qh;exact rfl;apply xk;exact cAo)|(apply qh;exact rfl;apply cd_f;exact cRa)|(apply jx;(iterate 4 exact rfl))|(apply qbn;exact rfl;exact rfl)|(apply vo;exact rfl;exact rfl)|(apply j9;(iterate 3 exact rfl))|(apply km;(iterate 5 exact rfl))|(apply kp;(iterate 11 exact rfl))|apply q9|(apply q5;exact Tryz.call119;exact qtw _ _ hf1 hf2 hc)|(apply vp (n:=pre.length);(iterate 5 exact rfl);exact hget))
   refine qfp (z7 f) (fun lp s=>∃ q,(q = .v (.pointer none)∨q = .bx (st.length+0) 0 0)∧StE [(4,.bx (st.length+0) 0 0),(11,zr xs),(12,Iv xs.length),(13,Iv pre.length),(25,Ss (z7 f)),(26,Iv (z7 f).length),(27,Iv lp.length)] st [bldO 0 q (js pre++q6 lp) (st.length+1),.tip (js pre++q6 lp).length 1 5] s) ⟨_,hq,qjx ⟨rfl,rfl,rfl,rfl,rfl,congrArg (fun n:Nat=>Iv (n:Int)) (List.length_map ..),rfl,trivial⟩ (by simp [q6])⟩ ?_ ?_
   ·rintro _ ⟨q,hq,t,ext,rfl⟩
    repeat' (first|apply qt|apply qj|apply qi|apply ql|(apply q7;(iterate 3 exact rfl))|(apply qh;exact rfl;apply y4;exact cAo)|(apply jj;exact rfl;exact rfl;exact zy (by omega) (by omega))|apply vt)
    refine⟨fun x hx=>?_,q,hq,qjx ⟨rfl,rfl,rfl,?_,trivial⟩ ?_⟩
    ·rcases List.mem_append.1 hx with hx|hx
     ·exact hg x hx
     ·simp at hx;subst hx;exact hgf
    ·rw [qfh pre f];rfl
    ·rw [q17,q18]
   ·rintro lp a lr _ hlr ⟨q,hq,t,ext,rfl⟩
    have hlen2:(z7 f).length=lp.length+(lr.length+1):=by rw [hlr];simp
    have hget2:((z7 f).map fun x=>Sv x)[lp.length]? = some (Sv a):=by rw [hlr];simp
    have hb3:(q6 lp).length+(a.length+1)≤5000:=by
     rw [hlr,yh] at hb2
     have:a::lr=[a]++lr:=rfl
     rw [this,yh,qjz] at hb2
     simp only [List.length_append,List.length_cons,List.length_nil] at hb2
     omega
    have hct:=qlf lp
    repeat' (first|apply qt|apply za|apply qj|apply qi|apply ql|apply qk|(apply q7;(iterate 3 exact rfl))|(apply qh;exact rfl;apply xk;exact cAo)|(apply qae;exact rfl;exact rfl;exact cOs)|(apply j9;(iterate 3 exact rfl))|apply q9|(apply vp (n:=lp.length);(iterate 5 exact rfl);exact hget2))
    refine q5 Tryz.call71 (qm5 st _ _ _ _ 0 1 0 _ _ _ rfl rfl ?_ ?_ rfl) ?_;(exact hq);(simp only [List.length_append,List.length_cons,List.length_nil];omega)
    repeat' (first|apply qj|apply qi|apply ql|(apply jj;exact rfl;exact rfl;exact zy (by omega) (by omega)))
    refine⟨_,.inr rfl,qjx ⟨rfl,rfl,rfl,rfl,rfl,rfl,?_,trivial⟩ ?_⟩
    ·rw [qfh lp a];rfl
    ·have e:js pre++q6 (lp++[a])=(js pre++q6 lp)++(a++[10]):=by rw [yh,qjz,List.append_assoc]
     rw [e];rfl
  ·skip
   repeat' (first|apply qt|apply za|apply qj|apply qi|apply ql|apply qk|(apply vl;exact rfl;exact rfl)|(apply q7;(iterate 3 exact rfl))|(apply qh;exact rfl;apply xk;exact cAo)|(apply qh;exact rfl;apply cd_t;exact cRa)|(apply qbm;exact rfl;exact rfl)|(apply vo;exact rfl;exact rfl)|(apply j9;(iterate 3 exact rfl))|(apply km;(iterate 5 exact rfl))|(apply kp;(iterate 11 exact rfl))|apply q9|apply zi|(apply q5;exact Tryz.call119;exact qtx _ _ hf1 hf2 hc)|(apply vp (n:=pre.length);(iterate 5 exact rfl);exact hget))
   refine qv rfl (qey rfl) ⟨?_,qka _ _ _ _⟩
   unfold qnk
   have h0:errF xs=ka f:=by rw [hr];exact qxm hg hc
   rw [h0,if_neg hc,qg3 hc]
   rfl
end Go.Proofs.YtejoahlpbckbeaaGreatDoor
namespace Go.Av
open Go Go.RowKit
@[reducible] def qn8 (K : Act → World → Prop) : Exit → Act → World → Prop
 | .normal,a,w=>K a w
 | _,_,_=>False
structure AZ (E:Env) (N:Nat) (ops:Array Oper) (fuel:Nat) (listed:Array Bool) (K:AS→Prop) (s:AS):Prop where
 run:∀ (B0:Nat) (w0:World) (G:Gh) (a:Act) (w:World),E.L B0 w0→Inv B0 w0 N G s a w→∀ K':Act→World→Prop,(∀ G' s' a' w',G.le G'→Inv B0 w0 N G' s' a' w'→K s'→K' a' w')→wpAnyIn (fw none) 0 E.P .any ops (qn8 K') fuel listed a w
structure AY (E:Env) (N:Nat) (o:Oper) (s:AS) (r:AV):Prop where
 run:∀ (B0:Nat) (w0:World) (G:Gh) (a:Act) (w:World),Inv B0 w0 N G s a w→∃ v,(∀ w',(execOp a.eval o).run E.P w' = .ok (.value v) w')∧(∀ w',o.about E.P w' a.eval=none)∧Rel G r v
section
variable {E : Env} {N : Nat} {ops : Array Oper} {K : AS → Prop} {s : AS} {fuel : Nat} {listed : Array Bool}
theorem qfo {id:Nat} {Q:Exit→AS→Prop} {n:Nat} (hm:E.P.follows .mixedOrders=true) (hn:ops.size=n) (h:AZ E N ops n (Array.replicate n false) (Q .normal) s):AWp E none N (.region id ops true) Q s:=by
 subst hn
 refine⟨fun B0 w0 G a w hL hI=>?_⟩
 have hBl:Below w.heap.size w { w with drawn:=w.drawn+1 }:=⟨rfl,rfl,rfl,Nat.le_refl _,fun _ _=>rfl⟩
 have hI2:Inv B0 w0 N G s a { w with drawn:=w.drawn+1 }:=⟨hI.agree.fresh hBl,hI.defers,hI.size,hI.tmps⟩
 have:=h.run B0 w0 G a _ hL hI2 (fun a' w'=>∃ (G':Gh) (s':AS),G.le G'∧Inv B0 w0 N G' s' a' w'∧Q .normal s') fun G' s' a' w' hG hI' hk=>⟨G',s',hG,hI',hk⟩
 refine wpIn_mono (wpIn_region_any hm this) fun e a' w' hq=>?_
 cases e with
 |normal=>exact hq
 | _=>exact hq.elim
theorem qaf (hr:Region.ready .any ops listed=[]) (h:K s):AZ E N ops fuel listed K s:=
 ⟨fun B0 w0 G a w hL hI K' hK=>wpAnyIn_done hr (hK G s a w (.refl G) hI h) fuel⟩
theorem wr (i:Nat) {oi:Oper} {r:AV} (hi:ops[i]? = some oi) (hs:Region.noSelect ops=true) (hf:Region.free .any ops listed i=true) (hr:(Region.ready .any ops listed).contains i=true) (hg:oi.guard=none) (hy:AY E N oi s r)
  (h:AZ E N ops fuel (listed.setIfInBounds i true) K (s.put oi.dst r)):AZ E N ops (fuel+1) listed K s:=by
 refine⟨fun B0 w0 G a w hL hI K' hK=>?_⟩
 obtain⟨v,h1,h2,h3⟩:=hy.run B0 w0 G a w hI
 have hwn:Region.wanted oi (yielded ops a.tmps)=true:=by simp [Region.wanted,hg]
 refine wpAnyIn_take (v:=v) rfl hi hs hf hr (fun c a w hq=>hq.elim) ⟨.inl ⟨hwn,h1⟩,h2⟩ (h.run B0 w0 G _ w hL (hI.put (.refl G) hI.agree oi.dst h3) K' fun G' s' a' w' hG hI' hk=>hK G' s' a' w' hG hI' hk)
theorem qww {F:Fence} {n:Nat} {P:Program} {o:Oper} {a:Act} {w:World} {next X Y:Act→World→Prop} (h:o.wpIn F n P a w next (qn8 X)):o.wpIn F n P a w next (qn8 Y):=by
 unfold Oper.wpIn at *
 refine⟨h.1,?_⟩
 have h:=h.2
 generalize (o.semAt F.round a.eval).run P w=r at *
 cases r with
 |ok x w'=>
  cases x <;> simp only [Oper.uponIn] at h ⊢
  case value u=>exact h
  case skip=>exact h
  case defer d=>exact h
  case enter f args=>
   refine⟨h.1,CallsIn.mono h.2 fun e w'' he=>?_⟩
   cases e with
   |returned u=>exact he
   |panicked c=>exact he.elim
   |outgrown=>exact absurd he (by simp [LetsOut])
  case row row args=>exact h
  case round l f tmps assign body=>
   refine⟨h.1,RoundIn.mono h.2 fun e w'' he=>?_⟩
   cases e with
   |returned u=>exact he
   |panicked c=>exact he.elim
   |outgrown=>exact absurd he (by simp [LetsOut])
 |halt x w'=>
  cases x <;> simp only [Oper.uponIn] at h ⊢
  case panic u=>exact h.elim
def qr4 (P:Nat→Prop):List Nat→Prop
 | []=>True
 |i::r=>P i∧qr4 P r
theorem qp1 {P:Nat→Prop}:∀ {l:List Nat},qr4 P l→∀ i∈l,P i
 | [],_,_,h=>by simp at h
 |j::l,h,i,hi=>by
  rcases List.mem_cons.1 hi with rfl|hi
  ·exact h.1
  ·exact qp1 h.2 i hi
theorem vi (rs:List Nat) (hr:Region.ready .any ops listed=rs) (hne:Nat.blt 0 rs.length=true)
  (h:qr4 (fun i=>∃ o,ops[i]? = some o∧AOps E none N ops [o] (AZ E N ops fuel (listed.setIfInBounds i true) K) s) rs):AZ E N ops (fuel+1) listed K s:=by
 refine⟨fun B0 w0 G a w hL hI K' hK=>wpAnyIn_all hr (fun e=>by subst e;simp at hne) fun i hi=>?_⟩
 obtain⟨o,ho,h⟩:=qp1 h i hi
 have hrun:=h.run B0 w0 G a w hL hI (qn8 fun a' w'=>wpAnyIn (fw none) 0 E.P .any ops (qn8 K') fuel (listed.setIfInBounds i true) a' w') fun G' s' a' w' hG hI' hk=>hk.run B0 w0 G' a' w' hL hI' K' fun G2 s2 a2 w2 hG2 hI2 hk2=>hK G2 s2 a2 w2 (hG.trans hG2) hI2 hk2
 unfold wpOpIn
 rw [ho]
 simp only [wpListIn] at hrun ⊢
 split
 ·rename_i hw
  rw [if_pos hw] at hrun
  exact qww hrun
 ·rename_i hw
  rw [if_neg hw] at hrun
  exact hrun
variable {d : Option Tmp} {T : TypeId} {p : String} {af : Array Edge}
theorem q6n {op:Op} {r:AV} (hnc:∀ c,op≠.call c) (h:∀ (G:Gh) (ρ : Operand→Value),(∀ x,Rel G (qf N s x) (ρ x))→∃ v,(∀ w',(execOp ρ ⟨d,op,T,p,af,none⟩).run E.P w' = .ok (.value v) w')∧Rel G r v):AY E N ⟨d,op,T,p,af,none⟩ s r:=
 ⟨fun B0 w0 G a w hI=>let ⟨v,h1,h2⟩:=h G a.eval hI.eval;⟨v,h1,fun w'=>by unfold Oper.about;cases op <;> first|rfl|exact absurd rfl (hnc _),h2⟩⟩
theorem xf {x:Operand}:AY E N ⟨d,.move x,T,p,af,none⟩ s (qf N s x):=q6n nofun fun G ρ hρ=>⟨ρ x,fun w'=>by simp [execOp],hρ x⟩
theorem qqc {x:Operand}:AY E N ⟨d,.assign x,T,p,af,none⟩ s (qf N s x):=q6n nofun fun G ρ hρ=>⟨ρ x,fun w'=>by simp [execOp],hρ x⟩
end
theorem qo3 {E:Env} {rd:Option Nat} {N:Nat} {c:Code} {Q:Exit→AS→Prop} {s:AS} (I:AS→Prop) (h:AWp E rd N c (only I) s) (hk:∀ s',I s'→Q .normal s'):AWp E rd N c Q s:=h.mono fun e s' h=>by
 cases e <;> first|exact hk _ h|exact h.elim
end Go.Av
namespace Go.Proofs.YtejoahlpbckbeaaGreatDoor
open Go Go.Av Go.RowKit Go.Proofs Go.Pl
theorem qjg {l:qc}:qm l=4↔10∉l∧58∈l∧qa5 (ji l):=by
 unfold qm
 by_cases h10:10∈l
 ·simp [h10]
 ·rw [if_neg h10]
  constructor
  ·intro h
   split at h
   ·simp at h
   ·split at h
    ·simp at h
    ·split at h
     ·simp at h
     ·split at h
      ·rename_i hk;exact⟨h10,hk.1,hk.2⟩
      ·simp at h
  ·rintro⟨_,h58,hk⟩
   obtain⟨c,hc,hb,h35⟩:=qf2 hk
   have hh:l.head? = some c:=by
    cases l with
    |nil=>simp at h58
    |cons a r=>
     unfold ji at hc
     rw [List.takeWhile_cons] at hc
     split at hc
     ·simpa using hc
     ·simp at hc
   have hmem:c∈l:=List.mem_of_head? hh
   rw [if_neg (fun h'=>hb (h' c hmem)),if_neg (by rw [hh];simpa using h35),if_neg (fun ⟨d,hd,hd'⟩=>by rw [hh] at hd;cases hd;exact hb hd'),if_pos ⟨h58,hk⟩]
theorem qzq (l:qc) (st:List AObj) (hl:l.length<4294967281) (h:qm l=4):qn E 248 [Sv l] st fun r st'=>r = .tu [Sv (ji l),Sv (w7 l),Bv true]∧st'=st:=by
 refine zz (qrf _ _ _) (qx Tryz.func248 rfl (Nat.le_of_ble_eq_true rfl) ?_)
 have hc:Lib.cut l [58]=(ji l,w7 l,true):=by rw [qqh,if_pos (qjg.1 h).2.1]
 repeat' (first|apply qt|apply qj|apply qi|apply ql|apply qk|(apply vl;exact rfl;exact rfl)|(apply q7;(iterate 3 exact rfl))|(apply qh;exact rfl;apply y4;exact cAo)|apply q9|apply zi|(apply q5;exact Tryz.call161;exact qjf _ _ hl)|(apply q5;exact Tryz.call62;exact qy5 _ _ _ hl))
 refine qv rfl (qm4 rfl) ⟨zbd (?_:_=_),_,rfl⟩
 rw [hc]
theorem qws (l:qc) (st:List AObj) (hl:l.length<4294967281) (h:qm l≠4):qn E 248 [Sv l] st fun r st'=>r = .tu [Sv [],Sv [],Bv false]∧st'=st:=by
 refine zz (qrf _ _ _) (qx Tryz.func248 rfl (Nat.le_of_ble_eq_true rfl) ?_)
 repeat' (first|apply qt|apply qj|apply qi|apply ql|apply qk|(apply q7;(iterate 3 exact rfl))|(apply qh;exact rfl;apply xk;exact cAo)|apply zi|(apply q5;exact Tryz.call161;exact qjf _ _ hl))
 exact qv rfl (qm4 rfl) ⟨rfl,_,rfl⟩
def qc9 (ls:List qc):AV:=.tu [fldA (ja ls).1,errN (ja ls).2]
theorem qvr (ls:List qc):Pure (qc9 ls):=qes fun x hx=>by
 simp only [List.mem_cons,List.not_mem_nil,or_false] at hx
 rcases hx with rfl|rfl
 ·exact qpl fun x hx=>by
   simp only [List.mem_cons,List.not_mem_nil,or_false] at hx
   rcases hx with rfl|rfl <;> exact q8 _
 ·exact qfy _
structure LsB (ls:List qc):Prop where
 len:ls.length<1000000
 val:∀ s∈ls,s.length<1000000
theorem qvj:∀ (r:List qc),(∀ s∈r,s.length<1000000)→(r.flatMap fun s=>[10]++wu 46 (s.drop 1)).length≤1000001 * r.length
 | [],_=>by simp
 |a::r,h=>by
  have ih:=qvj r fun s hs=>h s (by simp [hs])
  have ha:=h a (by simp)
  have ht:(wu 46 (a.drop 1)).length≤a.length:=by unfold wu;split <;> simp <;> omega
  simp only [List.flatMap_cons,List.length_append,List.length_cons,List.length_nil]
  omega
theorem q2h (v:qc) (r:List qc):Lib.join (v::r.map fun s=>wu 46 (s.drop 1)) [10]=v++r.flatMap fun s=>[10]++wu 46 (s.drop 1):=by
 rw [Lib.join_cons]
 unfold Lib.joinTail
 rw [List.map_map,List.flatMap_def]
 rfl
theorem q8f (xs:List qc) (tip:Option Nat) (sep v:qc) (st:List AObj) (h:Lib.join xs sep=v) (hN:xs.length≤140737488355328) (hl:v.length≤140737488355328):qn E 123 [.sl 1 (xs.map fun x=>Sv x) tip,Sv sep] st fun r st'=>r=Sv v∧st'=st:=by
 subst h
 exact q2g xs tip sep st hN hl
theorem qpd {s:qc} (h:qm s=3):2≤s.length∧10∉s:=by
 have h10:10∉s:=fun h'=>by unfold qm at h;rw [if_pos h'] at h;simp at h
 refine⟨?_,h10⟩
 unfold qm at h
 rw [if_neg h10] at h
 split at h
 ·simp at h
 ·rename_i hb
  split at h
  ·simp at h
  ·split at h
   ·rename_i hbl
    obtain⟨c,hc,hcb⟩:=hbl
    match s,hc with
    | [a],hc=>
     simp at hc
     subst hc
     exact absurd (by simpa using hcb) hb
    |a::b::r,_=>simp
   ·split at h <;> simp at h
theorem ql3 {α : Type} {P : α→Prop} {pre:List α} {a : α} (h:∀ x∈pre,P x) (ha:P a):∀ x∈pre++[a],P x:=fun x hx=>by
 rcases List.mem_append.1 hx with hx|hx
 ·exact h x hx
 ·simp at hx;subst hx;exact ha
end Go.Proofs.YtejoahlpbckbeaaGreatDoor
namespace Go.Pl
open Go Go.Proofs
structure LnV where
 no:Nat
 at':Nat
 text:qc
 ended : Bool
def qxu (k a:Nat) (l:qc):List LnV:=if h:l=[] then [] else⟨k,a,upto 10 l,decide (10∈l)⟩::qxu (k+1) (a+(upto 10 l).length+1) (past 10 l)
 termination_by l.length
 decreasing_by exact x7 h
def lns (l:qc):List LnV:=qxu 0 0 l
def whole (l:qc):Prop:=l=[]∨l.getLast? = some 10
def indF (by':qc) (ls:List (qc×Bool)):qc:=ls.flatMap fun x=>by'++x.1++qeq x.2
def qeo (by' l:qc):qc:=indF by' (zj l)
def lsum (ls:List (qc×Bool)):Nat:=(ls.map fun x=>x.1.length+(qeq x.2).length).sum
theorem qjm:∀ (n:Nat) (l:qc),l.length≤n→lsum (zj l)=l.length∧(zj l).length≤l.length
 |n,l,hn=>by
  by_cases h:l=[]
  ·subst h;simp [vg,lsum]
  ·have hlt:=x7 (c:=10) h
   cases n with
   |zero=>omega
   |succ n=>
    obtain⟨h1,h2⟩:=qjm n (past 10 l) (by omega)
    rw [wq h]
    unfold lsum at h1 ⊢
    simp only [List.map_cons,List.sum_cons,List.length_cons]
    rw [h1]
    have hp:=xn 10 l
    have hu:=yw 10 l
    by_cases h10:10∈l
    ·have:=qhb h10
     simp [h10,qeq]
     omega
    ·have hu2:(upto 10 l).length=l.length:=by rw [qda h10]
     have hpos:=List.length_pos_iff.2 h
     simp [h10,qeq]
     omega
theorem qt2 (by':qc):∀ (ls:List (qc×Bool)),(indF by' ls).length=lsum ls+by'.length * ls.length
 | []=>by simp [indF,lsum]
 |x::r=>by
  have ih:=qt2 by' r
  simp only [indF,lsum,List.flatMap_cons,List.length_append,List.map_cons,List.sum_cons,List.length_cons] at ih ⊢
  rw [ih,Nat.mul_add]
  omega
def qzz (x:LnV):qc×Bool:=(x.text,x.ended)
end Go.Pl
namespace Go.Av
open Go Go.RowKit
def TipC (b:Nat) (st:List AObj) (sz:Nat) (T:TypeId) (xs:List AV) (c:AV):Prop:=(xs=[]∧c=zv)∨∃ t,c = .sl sz xs (some t)∧st[t]? = some (.tip xs.length sz T)∧b≤t
structure Fr (st st':List AObj) (t:Nat):Prop where
 len:st.length≤st'.length
 same:∀ k,k≠t→k<st.length→st'[k]? = st[k]?
theorem q6g (b:Nat) (st:List AObj) (sz:Nat) (T:TypeId):TipC b st sz T [] zv:=.inl ⟨rfl,rfl⟩
theorem qfi {b:Nat} {st l:List AObj} {sz:Nat} {T:TypeId} {xs:List AV} {c:AV} (h:TipC b st sz T xs c):TipC b (st++l) sz T xs c:=by
 rcases h with h | ⟨t,h1,h2,h3⟩
 ·exact .inl h
 ·exact .inr ⟨t,h1,by rw [List.getElem?_append_left (lt_of_getElem? h2)];exact h2,h3⟩
section
variable {E : Env} {rd : Option Nat} {N : Nat} {ops : Array Oper} {K : AS → Prop} {s : AS} {rest : List Oper} {d : Option Tmp} {T : TypeId} {p : String} {af : Array Edge}
theorem qsv {x y:Operand} {t u T':TypeId} {sz bytes b:Nat} {xs ys:List AV} {tip:Option Nat} {c:AV} {st:List AObj} (hst:s.st=st) (hx:qf N s x=c) (hc:TipC b st sz T' xs c) (hb:b≤st.length) (hy:qf N s y = .sl sz ys tip)
  (ht:E.P.underlying t=some (.slice T')) (hu:E.P.underlying u=some (.slice T')) (hT:wh E.P T' sz bytes) (hone:jq (flat ys)=true) (h63:xs.length+ys.length≤maxLen) (hby:(xs.length+ys.length) * bytes≤140737488355328)
  (h:∀ t1 st',st'[t1]? = some (.tip (xs++ys).length sz T')→b≤t1→Fr st st' t1→(c = .sl sz xs (some t1)∨st.length≤t1)→AOps E rd N ops rest K (AS.put ⟨s.t,st',s.df⟩ d (.sl sz (xs++ys) (some t1)))):AOps E rd N ops (⟨d,.call ⟨.builtin .append,#[x,y],#[t,u]⟩,T,p,af,none⟩::rest) K s:=by
 subst hst
 refine qs rfl (qq nofun fun B0 w0 G a w _ hI=>?_)
 rcases hc with⟨hxs,hcn⟩ | ⟨t1,h1,h2,h3⟩
 ·subst hxs
  have hle:=G.le_new 0 0 0 false
  have hA:=hI.agree.newTip sz T'
  have hv:a.eval x = .slice none 0 0:=hI.evalv (hx.trans hcn)
  have hn:=hI.agree.n
  obtain⟨news,k1,k2,k3⟩:=xd (P:=E.P) hA ((hI.eval_of hy).mono hle) (by simpa [jq] using hone)
  have hr:Rel (G.new 0 0 0 false) (.sl sz [] (some s.st.length)) (a.eval x):=by
   rw [hv]
   exact .sl0 sz _ none 0 fun t ht=>by simp only [Option.some.injEq] at ht;subst ht;exact⟨by simp [Gh.new,hn],rfl,rfl⟩
  obtain⟨v',w',G',e1,e2,e3,e4⟩:=yq (ty:=T) hA ht hu (.inr ⟨_,rfl⟩) hT (t:=s.st.length) (n:=0) (by simp) hr rfl rfl k1 k2 k3 (by simpa using h63) (by simpa using hby)
  refine⟨v',w',G',_,_,?_,hle.trans e2,e3,e4,h s.st.length _ ?_ hb ⟨by simp,fun k hk hlt=>?_⟩ (.inr (Nat.le_refl _))⟩
  ·generalize a.eval = ρ at e1
   simp [execOp,resolve,invoke,builtin,e1]
  ·simp
  ·rw [List.getElem?_set_ne (Ne.symm hk),List.getElem?_append_left hlt]
 ·obtain⟨news,k1,k2,k3⟩:=xd (P:=E.P) hI.agree (hI.eval_of hy) (by simpa [jq] using hone)
  obtain⟨v',w',G',e1,e2,e3,e4⟩:=yq (ty:=T) hI.agree ht hu (.inr ⟨_,rfl⟩) hT h2 (hI.eval_of (hx.trans h1)) rfl rfl k1 k2 k3 h63 hby
  refine⟨v',w',G',_,_,?_,e2,e3,e4,h t1 _ ?_ h3 ⟨by simp,fun k hk hlt=>?_⟩ (.inl h1)⟩
  ·generalize a.eval = ρ at e1
   simp [execOp,resolve,invoke,builtin,e1]
  ·rw [List.length_append]
   exact jy h2
  ·rw [List.getElem?_set_ne (Ne.symm hk)]
theorem qiy {t:TypeId} {x:Operand} {r:AV} {cs:List AV} (hx:qf N s x=r) (hok:r.okc=true) (hc:r.cells=cs)
  (h:AOps E rd N ops rest K (s.put d (.pp cs))):AOps E rd N ops (⟨d,.box t x,T,p,af,none⟩::rest) K s:=by
 refine qs rfl (qq nofun fun B0 w0 G a w _ hI=>?_)
 have hr:=(hI.eval_of hx).cells hok
 rw [hc] at hr
 obtain⟨hle,hA⟩:=hI.agree.newPub t (a.eval x).cells (0,0) (a.eval x).cells.toList (fun i y hy=>by simpa using hy)
 have hrun:(execOp a.eval ⟨d,.box t x,T,p,af,none⟩).run E.P w = .ok (.value (.pointer (some ⟨w.heap.size,0,none⟩))) (w.alloc (.cells (a.eval x).cells t)):=by
  generalize a.eval = ρ
  simp [execOp,Instr.box,newVar,newRow,newObj,Sem.run]
 refine⟨_,_,_,.pp cs,s.st,hrun,hle,hA,.pp cs w.heap.size 0 (a.eval x).cells.toList (by simp [Gh.publish]) (by rw [hr.1];simp) fun i x y hx hy=>(hr.2 i x y hx (by simpa using hy)).mono hle,h⟩
end
theorem qkr {E:Env} {f:FuncId} {x x':AV} {us:List AV} {st:List AObj} {R:AV→List AObj→Prop} (hw:∀ G v,Rel G x v→Rel G x' v) (h:qn E f (x'::us) st R):qn E f (x::us) st R:=
 ⟨fun B0 w0 G vals w hL hA hR=>h.run B0 w0 G vals w hL hA ⟨by have:=hR.1;simpa using this,fun i a b ha hb=>by
  cases i with
  |zero=>simp at ha;subst ha;exact hw G b (hR.2 0 x b rfl hb)
  |succ i=>exact hR.2 (i+1) a b (by simpa using ha) hb⟩⟩
theorem qbv {st l:List AObj} {o:Nat} {x:AObj} (h:st[o]? = some x):(st++l)[o]? = some x:=by
 rw [List.getElem?_append_left (lt_of_getElem? h)];exact h
theorem wl {st:List AObj} {x:AObj}:(st++[x])[st.length]? = some x:=by simp
section
variable {E : Env} {rd : Option Nat} {N : Nat} {ops : Array Oper} {K : AS → Prop} {s : AS} {rest : List Oper} {d : Option Tmp} {T : TypeId} {p : String} {af : Array Edge}
theorem qv0 {t:TypeId} {st:List AObj} {cs:List AV} (hst:s.st=st) (hz:qgc E.P t=some cs)
  (h:AOps E rd N ops rest K (AS.put ⟨s.t,st++[.cells 0 t cs],s.df⟩ d (.bx st.length 0 0))):AOps E rd N ops (⟨d,.alloc t,T,p,af,none⟩::rest) K s:=
 vo (loc:=[]) (by rw [hst];simp) hz h
theorem q0z {t:TypeId} {x:Operand} {st:List AObj} {r:AV} {cs:List AV} (hst:s.st=st) (hx:qf N s x=r) (hok:r.okc=true) (hc:r.cells=cs)
  (h:AOps E rd N ops rest K (AS.put ⟨s.t,st++[.cells 0 t cs],s.df⟩ d (.bx st.length 0 0))):AOps E rd N ops (⟨d,.box t x,T,p,af,none⟩::rest) K s:=
 qcw (loc:=[]) (by rw [hst];simp) hx hok hc h
end
theorem qhg {st st':List AObj} (hl:st.length≤st'.length) (h:∀ k,k<st.length→st'[k]? = st[k]?):∃ ext,st'=st++ext:=by
 refine⟨st'.drop st.length,?_⟩
 apply List.ext_getElem?
 intro k
 by_cases hk:k<st.length
 ·rw [h k hk,List.getElem?_append_left hk]
 ·rw [List.getElem?_append_right (by omega),List.getElem?_drop]
  congr 1
  omega
end Go.Av
namespace Go.Proofs.YtejoahlpbckbeaaGreatDoor
open Go Go.Av Go.RowKit Go.Proofs
def qfa (x:Option AObj):Prop:=∀ n sz T,x≠some (.tip n sz T)
theorem xw {ver:Nat} {T:TypeId} {cs:List AV} {x:Option AObj} (h:x=some (.cells ver T cs)):qfa x:=fun n sz T' e=>by
 rw [h] at e
 simp at e
end Go.Proofs.YtejoahlpbckbeaaGreatDoor
namespace Go.Proofs.YtejoahlpbckbeaaGreatDoor
open Go Go.Av Go.RowKit Go.Proofs Go.Pl
structure Ext (n:Nat) (S S':List AObj):Prop where
 len:S.length≤S'.length
 low:∀ k,k<n→S'[k]? = S[k]?
 tips:∀ (t m sz:Nat) (T:TypeId),S[t]? = some (AObj.tip m sz T)→S'[t]? = S[t]?
theorem qen {n:Nat} {S l:List AObj} (h:n≤S.length):Ext n S (S++l):=⟨by simp,fun k hk=>List.getElem?_append_left (by omega),fun t m sz T ht=>List.getElem?_append_left (lt_of_getElem? ht)⟩
theorem qa3 {n o:Nat} {S:List AObj} {x:AObj} (h:n≤o) (hn:qfa S[o]?):Ext n S (S.set o x):=⟨by simp,fun k hk=>List.getElem?_set_ne (by omega),fun t m sz T ht=>List.getElem?_set_ne (fun e=>by subst e;exact hn _ _ _ ht)⟩
theorem Ext.weak {n m:Nat} {S S':List AObj} (h:Ext n S S') (hm:m≤n):Ext m S S':=⟨h.len,fun k hk=>h.low k (by omega),h.tips⟩
theorem Ext.trans {n:Nat} {S S' S'':List AObj} (h:Ext n S S') (k:Ext n S' S''):Ext n S S'':=⟨Nat.le_trans h.len k.len,fun i hi=>(k.low i hi).trans (h.low i hi),fun t m sz T ht=>(k.tips t m sz T ((h.tips t m sz T ht).trans ht)).trans (h.tips t m sz T ht)⟩
theorem q3n (text:List UInt8) (o kb ver n m:Nat) (I:Nat→List UInt8→List AObj→Prop) (D:List AObj→Prop) (S:List AObj) (hm:S.length=m) (hn:n≤m) (ht:text.length<4294967281) (h0:I 0 text S)
  (hI:∀ k rest S',I k rest S'→S'[kb]? = some (.cells ver 9 [Sv text]))
  (hst:∀ k rest S' S'',Ext n S' S''→I k rest S'→I k rest S'')
  (hY:∀ k rest S' cs,I k rest S'→S'[m]? = some (.cells 0 186 cs)→rest≠[]→rest.length≤text.length→qap E o [qsf k text rest] S' fun b S''=>S''[m]? = some (.cells 0 186 cs)∧(b=true→I (k+1) (past 10 rest) S'')∧(b=false→D S'')) :
  qn E 160 [.yd o,.bx kb ver 0] S fun r S'=>(∃ k,I k [] S')∨D S':=by
 subst hm
 refine qx Tryz.func160 rfl (Nat.le_of_ble_eq_true rfl) ?_
 have hb:=hI 0 text S h0
 repeat' (first|apply qt|apply za|apply qj|apply qi|apply qk|(apply vo;exact rfl;exact rfl)|(apply kp;(iterate 11 exact rfl))|(apply qa1;(iterate 3 exact rfl))|(apply qio;exact rfl;exact rfl;exact hb;exact rfl;exact rfl))
 refine vw (fun (x:Nat×List UInt8) s=>match x with|(k,rest)=>∃ S' at' ta eb,I k rest S'∧k+rest.length≤text.length∧at'=(text.length:Int) - rest.length∧S'[S.length]? = some (.cells 0 186 [Iv k,Iv at',Sv ta,Bv eb])∧StA [(0,.yd o),(1,.bx kb ver 0),(3,.bx S.length 0 0),(4,Sv rest)] S' [] s) (fun x=>x.2.length) (0,text)
  ⟨_,0,[],false,hst _ _ _ _ (qen hn) h0,by simp,by simp,xg (k:=0) rfl,kz ⟨rfl,rfl,rfl,rfl,trivial⟩⟩ ?_
 rintro⟨k,rest⟩ _ ⟨S',_,ta,eb,hi,hle,rfl,hown,t,rfl⟩
 have hb':=hI k rest S' hi
 repeat' (first|apply qt|apply za|apply qj|apply qi|apply ql|apply qk|(apply vl;exact rfl;exact rfl)|(apply xa;(iterate 3 exact rfl))|(apply qh;exact rfl;apply cd_d <;> intro h)|(apply jg;(iterate 3 exact rfl))|apply q9|apply vt|(apply q5;exact Tryz.call62;exact q97 _ _ _ (by omega))|(apply ko;exact rfl;(focus first|assumption|(repeat' (first|assumption|exact wl|exact xg rfl|apply jy|apply vb|omega|apply qbv)));exact rfl;exact rfl)|(apply qac;exact rfl;exact rfl;(focus first|assumption|(repeat' (first|assumption|exact wl|exact xg rfl|apply jy|apply vb|omega|apply qbv)));(iterate 6 exact rfl)))
 ·have e1:Ext n S' ((S'.set S.length (.cells 0 186 [Iv k,Iv ((text.length:Int) - rest.length),Sv (upto 10 rest),Bv eb])).set S.length (.cells 0 186 [Iv k,Iv ((text.length:Int) - rest.length),Sv (upto 10 rest),Bv (decide (10∈rest))])):=
   (qa3 hn (xw hown)).trans (qa3 hn (xw (jy hown)))
  apply qgs (o:=o) rfl
  refine qap.mono (hY k rest _ _ (hst _ _ _ _ e1 hi) (jy (jy hown)) h (by omega)) ?_
  rintro b S2 ⟨hown2,h1,h2⟩
  show AOps _ _ _ _ _ _ _
  cases b
  ·skip
   repeat' (first|apply qi|(apply wx;exact rfl)|(apply qh;exact rfl;apply qsc;exact cRa)|apply zi)
   exact qv rfl (qas rfl) (.inr (h2 rfl))
  ·have hi3:=h1 rfl
   have hb3:=hI _ _ _ hi3
   have hp:=xn 10 rest
   have hr0:0<rest.length:=List.length_pos_iff.2 h
   have hkb:kb≠S.length:=fun e=>by
    rw [e,hown2] at hb3
    simp at hb3
   repeat' (first|apply qt|apply qj|apply qi|apply ql|(apply wx;exact rfl)|(apply qh;exact rfl;apply qyw;exact cRa)|(apply yx;(iterate 3 exact rfl))|(apply jj;exact rfl;exact rfl;exact zy (by omega) (by omega))|(apply qcx;exact rfl;exact rfl;exact zy (by omega) (by omega))|(apply jg;(iterate 3 exact rfl))|apply q9|(apply ko;exact rfl;exact vb hb3 (Ne.symm hkb);exact rfl;exact rfl)|(apply ko;exact rfl;(focus first|assumption|(repeat' (first|assumption|exact wl|exact xg rfl|apply jy|apply vb|omega|apply qbv)));exact rfl;exact rfl)|(apply qac;exact rfl;exact rfl;(focus first|assumption|(repeat' (first|assumption|exact wl|exact xg rfl|apply jy|apply vb|omega|apply qbv)));(iterate 6 exact rfl)))
   have e2:Ext n S2 _:=(qa3 hn (xw hown2)).trans (qa3 (x:=.cells 0 186 [Iv ((k:Int)+1),Iv ((text.length:Int) - (past 10 rest).length),Sv (upto 10 rest),Bv (decide (10∈rest))]) hn (xw (jy (y:=.cells 0 186 [Iv ((k:Int)+1),Iv ((text.length:Int) - rest.length),Sv (upto 10 rest),Bv (decide (10∈rest))]) hown2)))
   exact⟨(k+1,past 10 rest),⟨_,_,_,_,hst _ _ _ _ e2 hi3,by omega,rfl,jy (jy hown2),kz ⟨rfl,rfl,rfl,rfl,trivial⟩⟩,by simp only;omega⟩
 ·have hr:rest=[]:=Classical.not_not.1 h
  subst hr
  exact qv rfl (qas rfl) (.inl ⟨k,hi⟩)
structure ItC (g:FuncId) (T:TypeId) (cs:List AV) {ι : Type} (Y : ι→Option (AV×ι)) (i0 : ι):Prop where
 run:∀ (o kb n m:Nat) (I : ι→List AObj→Prop) (D:List AObj→Prop) (S:List AObj),S.length=m→n≤m→I i0 S →
  (∀ i S',I i S'→S'[kb]? = some (.cells 0 T cs))→(∀ i S' S'',Ext n S' S''→I i S'→I i S'') →
  (∀ i x j S' (own:List AObj),I i S'→(∀ k y,own[k]? = some y→S'[m+k]? = some y∧qfa (some y))→Y i=some (x,j)→qap E o [x] S' fun b S''=>(∀ k y,own[k]? = some y→S''[m+k]? = some y)∧(b=true→I j S'')∧(b=false→D S'')) →
  qn E g [.yd o,.bx kb 0 0] S fun r S'=>(∃ i,Y i=none∧I i S')∨D S'
def qjw (text:List UInt8):Nat×List UInt8→Option (AV×(Nat×List UInt8))
 |(k,rest)=>if rest=[]∨text.length<rest.length then none else some (qsf k text rest,(k+1,past 10 rest))
theorem q58 (text:List UInt8) (ht:text.length<4294967281):ItC 160 9 [Sv text] (qjw text) (0,text):=⟨fun o kb n m I D S hm hn h0 hI hst hY=>by
 refine (q3n text o kb 0 n m (fun k rest S=>I (k,rest) S∧rest.length≤text.length) D S hm hn ht ⟨h0,Nat.le_refl _⟩ (fun k rest S' h=>hI _ _ h.1) (fun k rest S' S'' hE h=>⟨hst _ _ _ hE h.1,h.2⟩) (fun k rest S' cs hi hown hne hle=>?_)).mono ?_
 ·refine (hY (k,rest) (qsf k text rest) (k+1,past 10 rest) S' [.cells 0 186 cs] hi.1 (fun j y hy=>?_) (if_neg fun h=>h.elim hne (by omega))).mono fun b S'' ⟨h1,h2,h3⟩=>⟨by have:=h1 0 _ rfl;simpa using this,fun hb=>⟨h2 hb,by have:=xn 10 rest;omega⟩,h3⟩
  match j with
  | 0=>
   simp only [List.getElem?_cons_zero,Option.some.injEq] at hy
   subst hy
   exact⟨hown,xw rfl⟩
  |j+1=>simp at hy
 ·rintro r S' (⟨k,h⟩|h)
  ·exact .inl ⟨(k,[]),by simp [qjw],h.1⟩
  ·exact .inr h⟩
@[reducible] def za5 (n : Nat) (F : LoopState → Option Code → AObj) (own : List AObj) (I : List AObj → Prop) (D : Code → List AObj → Prop) : Exit → AS → Prop
 | .normal,s=>s.st[n]? = some .dfr∧s.st[n+1]? = some (F .busy none)∧(∀ k y,own[k]? = some y→s.st[n+2+k]? = some y)∧I s.st
 | .ret,s=>s.st[n]? = some .dfr∧s.st[n+1]? = some (F .busy none)∧(∀ k y,own[k]? = some y→s.st[n+2+k]? = some y)∧D .ret s.st
 | .exit id,s=>s.st[n]? = some .dfr∧s.st[n+1]? = some (F .busy none)∧(∀ k y,own[k]? = some y→s.st[n+2+k]? = some y)∧D (.exit id) s.st
 | _,_=>False
theorem qfb {N:Nat} {t:Nat→AV} {ps:Array Tmp} {asg body:Code} {F:LoopState→Option Code→AObj} (hF:qr6 F N t ps asg body) (ls:LoopState) (pend:Option Code) {x:Option AObj} (h:x=some (F ls pend)):qfa x:=fun n sz T' e=>by
 rw [h,hF] at e
 simp at e
theorem qs8 {N:Nat} {Q:Exit→AS→Prop} {s:AS} {f:Operand} {p:Tmp} {asg body:Code} {S0:List AObj} {kb:Nat} {g:FuncId} {T:TypeId} {cs:List AV} {ι : Type} {Y : ι→Option (AV×ι)} {i0 : ι} (hit:ItC g T cs Y i0) (hst:s.st=S0) (hx:qf N s f = .fn (.func g) [] [.bx kb 0 0])
  (hrun:∀ vs w,(callFunc g vs).run E.P w = .ok (.enter g vs) w)
  (I : ι→List AObj→Prop) (D:Code→List AObj→Prop) (h0:I i0 S0)
  (hI:∀ i S,I i S→S[kb]? = some (.cells 0 T cs))
  (hs1:∀ i S S',Ext S0.length S S'→I i S→I i S') (hs2:∀ c S S',Ext S0.length S S'→D c S→D c S')
  (hb:∀ F (own:List AObj) rd i x j S,qr6 F N s.t #[p] asg body→I i S→Y i=some (x,j)→S[S0.length]? = some .dfr→S[S0.length+1]? = some (F .ready none)→(∀ k y,own[k]? = some y→S[S0.length+2+k]? = some y∧qfa (some y)) →
   AWp E (some rd) N asg (only fun s1=>s1.st[S0.length+1]? = some (F .ready none)∧s1.df=[]∧AWp E (some rd) N body (za5 S0.length F own (I j) D) ⟨s1.t,s1.st.set (S0.length+1) (F .busy none),[]⟩) ⟨put s.t p x,S,[]⟩)
  (hn:∀ i S,Y i=none→I i S→S[S0.length]? = some .dfr→Q .normal ⟨s.t,S,S0.length::s.df⟩)
  (hd:∀ c S,D c S→S[S0.length]? = some .dfr→AWp E none N c Q ⟨s.t,S,S0.length::s.df⟩):AWp E none N (.rangeFunc f #[p] asg body) Q s:=by
 refine qyt (st:=S0) (loc:=[]) (by rw [hst];simp) hx hrun fun F hF=>?_
 have hl:(S0++([]++[AObj.dfr,F .ready none])).length=S0.length+2:=by simp
 have g1:(S0++([]++[AObj.dfr,F .ready none]))[S0.length]? = some .dfr:=by simp
 have g2:(S0++([]++[AObj.dfr,F .ready none]))[S0.length+1]? = some (F .ready none):=by simp
 have hz:S0.length+(([]:List AObj).length+1)=S0.length+1:=by simp
 rw [hz,show S0.length+([]:List AObj).length=S0.length from rfl]
 refine qn.mono (hit.run (S0.length+1) kb (S0.length+2) (S0.length+2) (fun i S=>I i S∧S[S0.length]? = some .dfr∧S[S0.length+1]? = some (F .ready none)) (fun S=>∃ c,D c S∧S[S0.length]? = some .dfr∧S[S0.length+1]? = some (F .done (some c))) (S0++([]++[.dfr,F .ready none])) hl (Nat.le_refl _) ⟨hs1 _ _ _ (qen (Nat.le_refl _)) h0,g1,g2⟩ (fun i S h=>hI i S h.1) (fun i S S' hE h=>⟨hs1 _ _ _ (hE.weak (by omega)) h.1,(hE.low _ (by omega)).trans h.2.1,(hE.low _ (by omega)).trans h.2.2⟩) ?_) ?_
 ·rintro i x j S' own ⟨hi,hd1,hf1⟩ hown hy
  refine q4e hF hf1 rfl fun rd=>?_
  refine (hb F own rd i x j S' hF hi hy hd1 hf1 hown).mono fun e s1 hq=>?_
  have fin:∀ {S:List AObj} {z:AObj},(∀ k y,own[k]? = some y→S[S0.length+2+k]? = some y)→∀ k y,own[k]? = some y→(S.set (S0.length+1) z)[S0.length+2+k]? = some y:=fun h k y hk=>vb (h k y hk) (by omega)
  cases e with
  |normal=>
   obtain⟨q1,q2,q3⟩:=hq
   refine⟨q1,q2,q3.mono fun e s2 hq2=>?_⟩
   cases e with
   |normal=>
    obtain⟨k1,k2,k3,k4⟩:=hq2
    exact⟨k2,fin k3,fun _=>⟨hs1 _ _ _ (qa3 (by omega) (qfb hF _ _ k2)) k4,vb k1 (by omega),jy k2⟩,nofun⟩
   |ret=>
    obtain⟨k1,k2,k3,k4⟩:=hq2
    exact⟨k2,fin k3,nofun,fun _=>⟨_,hs2 _ _ _ (qa3 (by omega) (qfb hF _ _ k2)) k4,vb k1 (by omega),jy k2⟩⟩
   |exit id=>
    obtain⟨k1,k2,k3,k4⟩:=hq2
    exact⟨k2,fin k3,nofun,fun _=>⟨_,hs2 _ _ _ (qa3 (by omega) (qfb hF _ _ k2)) k4,vb k1 (by omega),jy k2⟩⟩
   | _=>exact hq2.elim
  | _=>exact hq.elim
 ·rintro r S' (⟨i,hy,hi,hd1,hf1⟩ | ⟨c,hi,hd1,hf1⟩)
  ·exact⟨.ready,none,nofun,hf1,hn i _ hy (hs1 _ _ _ (qa3 (by omega) (qfb hF _ _ hf1)) hi) (vb hd1 (by omega))⟩
  ·exact⟨.done,some c,nofun,hf1,hd c _ (hs2 _ _ _ (qa3 (by omega) (qfb hF _ _ hf1)) hi) (vb hd1 (by omega))⟩
end Go.Proofs.YtejoahlpbckbeaaGreatDoor
namespace Go.Av
open Go Go.RowKit
theorem qmk {P:Program} {B0:Nat} {w0:World} {G:Gh} {st:List AObj} {w:World} (hA:qw B0 w0 G st w) {tt u ty T:TypeId} {du:TypeDesc} (htt:P.underlying tt=some (.slice T)) (hu:P.underlying u=some du) (hd:qeu du)
  {sz bytes:Nat} (hT:wh P T sz bytes) {t n m:Nat} (ht:st[t]? = some (.tip n sz T)) {xs ys:List AV} {x:Value} (hn:xs.length=n) (hm:ys.length=m)
  {news:List Value} (hx:Src P w x m sz news) (hys:∀ y∈ys,y.cells.length=sz) (hrel:∀ (i:Nat) (a:AV) (b:Value),(flat ys)[i]? = some a→news[i]? = some b→Rel G a b)
  (h63:n+m≤maxLen) (base:Option Addr) (c:Nat) (olds:List Value) (ho:(Builtin.firstCells sz n (.slice base n c)).run P w.drew = .ok olds.toArray w.drew) (hc:c<n+m) (hol:olds.length=n * sz) (hfx:(flat xs).length=n * sz) (hwx:∀ x∈xs,x.cells.length=sz)
  (hrx:∀ (j:Nat) (a:AV) (b:Value),(flat xs)[j]? = some a→olds[j]? = some b→Rel G a b) (hfit:Builtin.nextslicecap (n+m) c * bytes≤281474976710656) (hm0:m≠0) :
  ∃ v' w' G',(Builtin.append_ #[tt,u] ty #[.slice base n c,x]).run P w = .ok v' w'∧G.le G'∧qw B0 w0 G' (st.set t (.tip (n+m) sz T)) w'∧Rel G' (.sl sz (xs++ys) (some t)) v':=by
 obtain⟨i,z,hi,hz,rfl,rfl,hzs⟩:=hT.ex
 obtain⟨hraw,hver,htip⟩:=hA.ob t _ ht
 have htn:t<G.n:=by rw [hA.n];exact lt_of_getElem? ht
 have hlt:G.n=st.length:=hA.n
 have hk:=hA.kill t
 have hkt:(st.set t .dead)[t]? = some .dead:=xc ht
 have hother:∀ o x,(st.set t .dead)[o]? = some x→x.live→o≠t∧st[o]? = some x:=fun o x hx hl=>by
  rcases getElem?_set' _ _ _ _ _ hx with⟨_,e⟩ | ⟨h1,h2⟩
  ·subst e;exact hl.elim
  ·exact⟨h1,h2⟩
 have hset:(st.set t AObj.dead).set t (.tip (n+m) i.size T)=st.set t (.tip (n+m) i.size T):=by rw [List.set_set]
 have hself:st.set t (.tip n i.size T)=st:=by
  apply List.ext_getElem?
  intro k
  by_cases e:t=k
  ·subst e;rw [List.getElem?_set_self (lt_of_getElem? ht)];exact ht.symm
  ·rw [List.getElem?_set_ne e]
 have hrun:=qay (ty:=ty) htt hu hd hi hz hx base n c olds ho hc (by simp only [maxLen] at h63;omega) hfit
 have hge:=grownCap_ge w (n+m) c T
 have hle:=grownCap_le_maxLen w (n+m) c T h63
 generalize grownCap w (n+m) c T=cap at hrun hge hle
 have hsz:(olds.toArray++news.toArray++Builtin.zeroCells z.cells (cap - (n+m))).size=cap * i.size:=by
  simp only [Array.size_append,List.size_toArray,size_zeroCells,hzs,hol,hx.count,← Nat.add_mul]
  congr 1
  omega
 generalize hcv:olds.toArray++news.toArray++Builtin.zeroCells z.cells (cap - (n+m))=c' at hrun hsz
 have hdrew:Below w.heap.size w w.drew:=⟨rfl,rfl,rfl,Nat.le_refl _,fun _ _=>rfl⟩
 have hA1:=hk.fresh hdrew
 have hpre:∀ (j:Nat) (y:Value),(olds++news)[j]? = some y→c'[j]? = some y:=fun j y hy=>by
  have hj:=lt_of_getElem? hy
  rw [← hcv,Array.getElem?_append_left (by simp at hj ⊢;omega),List.append_toArray]
  simpa using hy
 obtain⟨hle1,hA2⟩:=hA1.newPub T c' (0,0) (olds++news) hpre
 have hnp:G.pub w.heap.size=none:=by
  cases hp:G.pub w.heap.size with
  |none=>rfl
  |some vs=>exact absurd (hA.pub_lt hp) (Nat.lt_irrefl _)
 obtain⟨hle2,hA3⟩:=hA2.setTip (n':=n+m) (vs:=olds++news) (k:=w.heap.size) (cap:=cap * i.size) (sz:=i.size) (T:=T) hkt (by simpa [Gh.publish] using hraw) (by simpa [Gh.publish] using hver) (by omega) (wy w.drew _) (by simp [Gh.publish]) (by simp [hol,hx.count,Nat.add_mul]) hsz hA.hB (fun o x hx hl=>by
  obtain⟨_,hx'⟩:=hother o x hx hl
  exact Nat.ne_of_lt ((hA.ob o x hx').lt hl))
 rw [hset] at hA3
 refine⟨_,_,_,hrun,hle1.trans hle2,hA3,?_⟩
 have hmono:∀ {a b},Rel G a b→Rel ((G.publish w.drew.heap.size (olds++news)).setOb t ⟨n+m,w.heap.size,cap * i.size,false⟩) a b:=fun h=>(h.mono hle1).mono hle2
 refine qpx (n:=n) (m:=m) (cap:=cap) (k:=w.heap.size) (vs:=olds) (news:=news) (by simp [Gh.setOb]) (by simp [Gh.setOb]) (by simp [Gh.setOb]) hle hge (by simpa [Gh.setOb,Gh.publish] using htn) (by omega) hn hm (by simp [Gh.setOb,Gh.publish]) (fun y hy=>?_) hol hx.count hfx (fun j a b h1 h2=>hmono (hrx j a b h1 h2)) (fun j a b h1 h2=>hmono (hrel j a b h1 h2))
 rcases List.mem_append.1 hy with h|h
 ·exact hwx y h
 ·exact hys y h
def TipO (b:Nat) (st:List AObj) (sz:Nat) (T:TypeId) (xs:List AV) (c:AV):Prop:=TipC b st sz T xs c∨(xs=[]∧∃ o v f,c = .os o v f 0 0)
theorem q6h (b:Nat) (st:List AObj) (sz:Nat) (T:TypeId):TipO b st sz T [] zv:=.inl (q6g ..)
theorem q9p (b:Nat) (st:List AObj) (sz:Nat) (T:TypeId) (o v f:Nat):TipO b st sz T [] (.os o v f 0 0):=.inr ⟨rfl,_,_,_,rfl⟩
theorem q84 {G:Gh} {o v f:Nat} {sz:Nat} {x:Value} (h:Rel G (.os o v f 0 0) x):Rel G (.sl sz [] none) x:=by
 cases h with
 |os _ _ _ _ b _ hn hv h=>exact .sl0 sz none _ _ (by simp)
section
variable {E : Env} {rd : Option Nat} {N : Nat} {ops : Array Oper} {K : AS → Prop} {s : AS} {rest : List Oper} {d : Option Tmp} {T : TypeId} {p : String} {af : Array Edge}
theorem qst {x y:Operand} {t u T':TypeId} {sz bytes b:Nat} {xs ys:List AV} {tip:Option Nat} {c:AV} {st:List AObj} (hst:s.st=st) (hx:qf N s x=c) (hy:qf N s y = .sl sz ys tip)
  (ht:E.P.underlying t=some (.slice T')) (hu:E.P.underlying u=some (.slice T')) (hT:wh E.P T' sz bytes) (hc:TipO b st sz T' xs c) (hb:b≤st.length) (hone:jq (flat ys)=true) (h63:xs.length+ys.length≤maxLen) (hby:(xs.length+ys.length) * bytes≤140737488355328)
  (h:∀ c' st' t1,TipO b st' sz T' (xs++ys) c'→Fr st st' t1→b≤t1→(c = .sl sz xs (some t1)∨st.length≤t1)→AOps E rd N ops rest K (AS.put ⟨s.t,st',s.df⟩ d c')):AOps E rd N ops (⟨d,.call ⟨.builtin .append,#[x,y],#[t,u]⟩,T,p,af,none⟩::rest) K s:=by
 rcases hc with hc | ⟨hxs,o,ver,f,hco⟩
 ·refine qsv hst hx hc hb hy ht hu hT hone h63 hby fun t1 st' g1 g2 g3 g4=>h _ st' t1 (.inl (.inr ⟨t1,rfl,g1,g2⟩)) g3 g2 g4
 ·subst hst
  subst hxs
  refine qs rfl (qq nofun fun B0 w0 G a w _ hI=>?_)
  have he:=hI.eval_of (hx.trans hco)
  obtain⟨news,k1,k2,k3⟩:=xd (P:=E.P) hI.agree (hI.eval_of hy) (by simpa [jq] using hone)
  have hex:=hT.ex
  obtain⟨i,z,hi,hz,hsz,hbt,hzs⟩:=hex
  generalize hv:a.eval x=v at he
  cases he with
  |os _ _ _ _ blk _ hn hvv hbb=>
   by_cases hm0:ys.length=0
   ·have hy0:ys=[]:=List.eq_nil_of_length_eq_zero hm0
    subst hy0
    have hk1':Src E.P w (a.eval y) 0 i.size []:=by
     have:news=[]:=List.eq_nil_of_length_eq_zero (by simpa using k1.count)
     rw [hsz]
     rw [this] at k1
     exact k1
    refine⟨_,w,G,_,s.st,?_,.refl G,hI.agree,.os o ver f 0 blk 0 hn hvv hbb,h _ s.st s.st.length (.inr ⟨rfl,o,ver,f,rfl⟩) ⟨Nat.le_refl _,fun _ _ _=>rfl⟩ hb (.inr (Nat.le_refl _))⟩
    have:=yv (ty:=T) ht hu (.inr ⟨_,rfl⟩) hi hk1' (some ⟨blk,f,none⟩) 0 0 (Nat.le_refl _)
    generalize a.eval = ρ at hv this
    simp [execOp,resolve,invoke,builtin,hv,this]
   ·have hle:=G.le_new 0 0 0 false
    have hA:=hI.agree.newTip sz T'
    have hz63:0+ys.length≤maxLen:=by simpa using h63
    obtain⟨v',w',G',e1,e2,e3,e4⟩:=qmk (ty:=T) hA ht hu (.inr ⟨_,rfl⟩) hT (t:=s.st.length) (n:=0) (xs:=[]) (by simp) rfl rfl k1 k2 (fun i a b h1 h2=>(k3 i a b h1 h2).mono hle) hz63 (some ⟨blk,f,none⟩) 0 []
     (run_firstCells_some w.drew sz 0 ⟨blk,f,none⟩ 0 0 [] (by simp) (by simp)) (by omega) (by simp) (by simp [flat]) (by simp) (by simp [flat]) (by rw [Nat.zero_add,nextslicecap_zero (by omega)];have:=hby;simp at this;omega) hm0
    refine⟨v',w',G',_,_,?_,hle.trans e2,e3,e4,h _ _ s.st.length (.inl (.inr ⟨s.st.length,rfl,?_,hb⟩)) ⟨by simp,fun k hk hlt=>?_⟩ hb (.inr (Nat.le_refl _))⟩
    ·generalize a.eval = ρ at e1 hv
     simp [execOp,resolve,invoke,builtin,hv,e1]
    ·simp
    ·rw [List.getElem?_set_ne (Ne.symm hk),List.getElem?_append_left hlt]
end
theorem qch {α : Type} {g : α→AV} {l:List α} (h:∀ a,jq (g a).cells=true):jq (flat (l.map g))=true:=by
 induction l with
 |nil=>rfl
 |cons a r ih=>
  have h1:=h a
  unfold jq flat at *
  rw [List.map_cons,List.flatMap_cons,List.all_append,h1,ih]
  rfl
theorem qu4 {b:Nat} {st:List AObj} {sz:Nat} {T:TypeId} {xs:List AV} {c:AV} (h:TipO b st sz T xs c):∀ G v,Rel G c v→Rel G (.sl sz xs none) v:=by
 rcases h with (⟨rfl,rfl⟩ | ⟨t,rfl,_⟩) | ⟨rfl,o,v,f,rfl⟩
 ·exact fun G v h=>y0 h
 ·exact fun G v h=>qju h
 ·exact fun G v h=>q84 h
end Go.Av
namespace Go.Av
open Go Go.RowKit
inductive SrcA (st:List AObj) (sz:Nat):AV→Nat→Nat→List AV→Prop
 |sl (ys:List AV) (tip:Option Nat) (hone:jq (flat ys)=true):SrcA st sz (.sl sz ys tip) ys.length ys.length (flat ys)
 |os (o ver off L cap m:Nat) (T:TypeId) (cs:List AV) (ho:st[o]? = some (.cells ver T cs)) (hfit:off+m * sz≤cs.length) (hone:jq ((cs.drop off).take (m * sz))=true):SrcA st sz (.os o ver off L cap) L m ((cs.drop off).take (m * sz))
structure SrcP (P:Program) (w:World) (x:Value) (L m size:Nat) (news:List Value):Prop where
 len:∀ w',(Builtin.lenOf x).run P w' = .ok L w'
 cells:∀ w',Below w.heap.size w w'→(Builtin.firstCells size m x).run P w' = .ok news.toArray w'
 count:news.length=m * size
 one:∀ u∈news,u.oneCell'=true
section
variable {B0 : Nat} {w0 : World} {G : Gh} {st : List AObj} {w : World}
theorem qkn {P:Program} (hA:qw B0 w0 G st w) {sz L m:Nat} {a:AV} {zs:List AV} {x:Value} (h:SrcA st sz a L m zs) (hr:Rel G a x) :
  ∃ news,SrcP P w x L m sz news∧zs.length=m * sz∧∀ (i:Nat) (a:AV) (b:Value),zs[i]? = some a→news[i]? = some b→Rel G a b:=by
 cases h with
 |sl ys tip hone=>
  obtain⟨news,h1,h2,h3⟩:=xd (P:=P) hA hr (by simpa [jq] using hone)
  exact⟨news,⟨h1.len,h1.cells,h1.count,h1.one⟩,zo h2,h3⟩
 |os o ver off _ cap _ T cs ho hfit hone=>
  obtain⟨g0,g1,g2,g3,c,g4,g5,g6⟩:=hA.ob o _ ho
  cases hr with
  |os _ _ _ _ b _ hn hv hb=>
   have hb:=hb g1
   subst hb
   have hget:∀ (j:Nat) (y:Value),((c.toList.drop off).take (m * sz))[j]? = some y→j<m * sz∧c[off+j]? = some y:=fun j y hy=>by
    rw [List.getElem?_take] at hy
    split at hy
    ·rename_i hj
     rw [List.getElem?_drop] at hy
     exact⟨hj,by simpa using hy⟩
    ·simp at hy
   have hnl:((c.toList.drop off).take (m * sz)).length=m * sz:=by
    simp
    omega
   refine⟨(c.toList.drop off).take (m * sz),⟨fun w'=>by simp [Builtin.lenOf],fun w' hw'=>?_,hnl,fun u hu=>?_⟩,by simp;omega,fun i a b h1 h2=>?_⟩
   ·refine run_firstCells_some w' sz m ⟨(G.ob o).blk,off,none⟩ L cap _ hnl fun j y hy=>?_
    obtain⟨hj,hy⟩:=hget j y hy
    have hlt:(G.ob o).blk<w.heap.size:=by
     rcases Nat.lt_or_ge (G.ob o).blk w.heap.size with h'|h'
     ·exact h'
     ·simp [Array.getElem?_eq_none h'] at g4
    have e1:w'.heap[(G.ob o).blk]? = some (.cells c T (0,0)):=by rw [hw'.block _ hlt];exact g4
    rw [Addr.add_lit]
    simp [World.cell?,e1,hy]
   ·obtain⟨j,hj⟩:=List.getElem?_of_mem hu
    obtain⟨h1,h2⟩:=hget j u hj
    have hlc:off+j<cs.length:=by omega
    have hx:cs[off+j]? = some cs[off+j]:=List.getElem?_eq_getElem hlc
    have hz:((cs.drop off).take (m * sz))[j]? = some cs[off+j]:=by rw [List.getElem?_take_of_lt h1,List.getElem?_drop];exact hx
    exact (g6 _ _ u hx h2).one (List.all_eq_true.1 hone _ (List.mem_of_getElem? hz))
   ·obtain⟨h3,h4⟩:=hget i b h2
    rw [List.getElem?_take_of_lt h3,List.getElem?_drop] at h1
    exact g6 _ a b h1 h4
theorem qev (hA:qw B0 w0 G st w) {o ver off:Nat} {T:TypeId} {cs zs:List AV} {news:List Value} {c:Array Value} (ho:st[o]? = some (.cells ver T cs)) (g4:w.heap[(G.ob o).blk]? = some (.cells c T (0,0))) (hfit:off+zs.length≤cs.length) (hl:zs.length=news.length)
  (hr:∀ (i:Nat) (a:AV) (b:Value),zs[i]? = some a→news[i]? = some b→Rel G a b):qw B0 w0 G (st.set o (.cells ver T (zh cs off zs))) (w.setRow (G.ob o).blk (c.toList.take off++news++c.toList.drop (off+news.length)).toArray):=by
 obtain⟨_,_,_,_,c',h4,g5,g6⟩:=hA.ob o _ ho
 rw [g4] at h4
 simp only [Option.some.injEq,Obj.cells.injEq,and_true] at h4
 subst h4
 refine hA.setRow ho (by simp [zh];omega) ?_
 have e1:∀ (j:Nat) (a:AV) (b:Value),(cs.take off)[j]? = some a→(c.toList.take off)[j]? = some b→Rel G a b:=fun j a b h1 h2=>by
  rw [List.getElem?_take] at h1 h2
  split at h1
  ·rename_i hj
   rw [if_pos hj] at h2
   exact g6 j a b h1 (by simpa using h2)
  ·simp at h1
 have e2:=w8 (G:=G) (cs:=cs.take off) (ds:=zs) (vs:=c.toList.take off) (us:=news) (by simp;omega) e1 hr
 have e3:=w8 (G:=G) (cs:=cs.take off++zs) (ds:=cs.drop (off+zs.length)) (vs:=c.toList.take off++news) (us:=c.toList.drop (off+news.length)) (by simp;omega) e2 (fun j a b h1 h2=>by
  rw [List.getElem?_drop] at h1 h2
  rw [hl] at h1
  exact g6 _ a b h1 (by simpa using h2))
 unfold zh
 intro j a b h1 h2
 exact e3 j a b h1 (by simpa using h2)
end
section
variable {E : Env} {rd : Option Nat} {N : Nat} {ops : Array Oper} {K : AS → Prop} {s : AS} {rest : List Oper} {d : Option Tmp} {T : TypeId} {p : String} {af : Array Edge}
theorem qim {x y:Operand} {t u T':TypeId} {sz bytes o ver n cap m:Nat} {cs zs:List AV} {a:AV} (hx:qf N s x = .os o ver 0 n cap) (hy:qf N s y=a) (ho:s.st[o]? = some (.cells ver T' cs)) (hsrc:SrcA s.st sz a m m zs)
  (ht:E.P.underlying t=some (.slice T')) (hu:E.P.underlying u=some (.slice T')) (hT:wh E.P T' sz bytes) (hroom:n+m≤cap) (hcs:cs.length=cap * sz)
  (h:AOps E rd N ops rest K (AS.put ⟨s.t,s.st.set o (.cells ver T' (zh cs (n * sz) zs)),s.df⟩ d (.os o ver 0 (n+m) cap))):AOps E rd N ops (⟨d,.call ⟨.builtin .append,#[x,y],#[t,u]⟩,T,p,af,none⟩::rest) K s:=by
 refine qs rfl (qq nofun fun B0 w0 G a0 w _ hI=>?_)
 obtain⟨i,z,hi,hz,rfl,rfl,hzs⟩:=hT.ex
 obtain⟨news,h1,h2,h3⟩:=qkn (P:=E.P) hI.agree hsrc (hI.eval_of hy)
 have hv:=hI.eval_of hx
 generalize hv':a0.eval x=v at hv
 obtain⟨g0,g1,g2,g3,c,g4,g5,g6⟩:=hI.agree.ob o _ ho
 have hmul:n * i.size+m * i.size≤cap * i.size:=by rw [← Nat.add_mul];exact Nat.mul_le_mul_right _ hroom
 cases hv with
 |os _ _ _ _ b _ hn hv hb=>
  have hb:=hb g1
  subst hb
  have hrun:=qfg (ty:=T) ht hu (.inr ⟨_,rfl⟩) hi ⟨h1.len,h1.cells,h1.count,h1.one⟩ (G.ob o).blk n cap c g4 hroom (by rw [h1.count];omega)
  refine⟨_,_,G,_,_,?_,.refl G,qev hI.agree ho g4 (by omega) (by rw [h1.count];exact h2) h3,.os o ver 0 (n+m) _ cap hn hv (fun _=>rfl),h⟩
  generalize a0.eval = ρ at hrun hv' ⊢
  simp [execOp,resolve,invoke,builtin,hv',hrun]
theorem xm {x y:Operand} {t u T':TypeId} {sz bytes o ver off dl dc L m:Nat} {cs zs:List AV} {a:AV} (hx:qf N s x = .os o ver off dl dc) (hy:qf N s y=a) (ho:s.st[o]? = some (.cells ver T' cs)) (hsrc:SrcA s.st sz a L m zs) (hm:Nat.min L dl=m)
  (ht:E.P.underlying t=some (.slice T')) (hT:wh E.P T' sz bytes) (hfit:off+m * sz≤cs.length)
  (h:AOps E rd N ops rest K (AS.put ⟨s.t,s.st.set o (.cells ver T' (zh cs off zs)),s.df⟩ d (Iv (m:Nat)))):AOps E rd N ops (⟨d,.call ⟨.builtin .copy,#[x,y],#[t,u]⟩,T,p,af,none⟩::rest) K s:=by
 refine qs rfl (qq nofun fun B0 w0 G a0 w _ hI=>?_)
 obtain⟨i,z,hi,hz,rfl,rfl,hzs⟩:=hT.ex
 obtain⟨news,h1,h2,h3⟩:=qkn (P:=E.P) hI.agree hsrc (hI.eval_of hy)
 have hv:=hI.eval_of hx
 generalize hv':a0.eval x=v at hv
 obtain⟨g0,g1,g2,g3,c,g4,g5,g6⟩:=hI.agree.ob o _ ho
 cases hv with
 |os _ _ _ _ b _ hn hv hb=>
  have hb:=hb g1
  subst hb
  have hst:=run_storeCells_at E.P (G.ob o).blk off T' news 0 c w g4 (by rw [h1.count];omega) h1.one
  simp only [Nat.add_zero] at hst
  have hcl:=h1.cells w (Below.refl _ _)
  refine⟨_,_,G,_,_,?_,.refl G,qev hI.agree ho g4 (by omega) (by rw [h1.count];exact h2) h3,.v _,h⟩
  have hl:=h1.len w
  generalize a0.eval = ρ at hv' hst hcl hl ⊢
  simp [execOp,resolve,invoke,builtin,hv',Builtin.copy_,run_underlying ht,sizeOf,typeInfo,hi,hl,hm,hcl,hst,goInt]
def qyf (P:Program) (T:TypeId):Bool:=
 match P.info? T with
 |some i=>(match i.zero with
  |some z=>z.cells.toList.all Value.oneCell'
  |none=>false)
 |none=>false
theorem qsx {x:Operand} {t T':TypeId} {sz bytes o ver off n cap:Nat} {cs:List AV} (hx:qf N s x = .os o ver off n cap) (ho:s.st[o]? = some (.cells ver T' cs))
  (ht:E.P.underlying t=some (.slice T')) (hT:wh E.P T' sz bytes) (hz1:qyf E.P T'=true) (hfit:off+n * sz≤cs.length)
  (h:∀ zs:List AV,zs.length=n * sz→AOps E rd N ops rest K (AS.put ⟨s.t,s.st.set o (.cells ver T' (zh cs off zs)),s.df⟩ d (.v undef))):AOps E rd N ops (⟨d,.call ⟨.builtin .clear,#[x],#[t]⟩,T,p,af,none⟩::rest) K s:=by
 refine qs rfl (qq nofun fun B0 w0 G a0 w _ hI=>?_)
 obtain⟨i,z,hi,hz,rfl,rfl,hzs⟩:=hT.ex
 have hv:=hI.eval_of hx
 generalize hv':a0.eval x=v at hv
 obtain⟨g0,g1,g2,g3,c,g4,g5,g6⟩:=hI.agree.ob o _ ho
 cases hv with
 |os _ _ _ _ b _ hn hv hb=>
  have hb:=hb g1
  subst hb
  by_cases h0:n=0
  ·subst h0
   have hself:s.st.set o (.cells ver T' (zh cs off []))=s.st:=by
    have e:zh cs off []=cs:=by simp [zh]
    rw [e]
    apply List.ext_getElem?
    intro k
    by_cases e:o=k
    ·subst e;rw [List.getElem?_set_self (lt_of_getElem? ho)];exact ho.symm
    ·rw [List.getElem?_set_ne e]
   have hh:=h [] (by simp)
   refine⟨_,_,G,_,_,?_,.refl G,hI.agree,.v _,by rw [hself] at hh;exact hh⟩
   generalize a0.eval = ρ at hv' ⊢
   simp [execOp,resolve,invoke,builtin,hv',Builtin.clear_,run_underlying ht,undef]
  ·have hzl:(Builtin.zeroCells z.cells n).toList.length=n * i.size:=by simp [size_zeroCells,hzs]
   have hz1:∀ u∈(Builtin.zeroCells z.cells n).toList,u.oneCell'=true:=fun u hu=>by
    unfold qyf at hz1
    rw [hi] at hz1
    simp only [hz] at hz1
    refine List.all_eq_true.1 hz1 u ?_
    simp only [Builtin.zeroCells,Array.toList_map,List.mem_map,Array.toList_range,List.mem_range] at hu
    obtain⟨q,hq,rfl⟩:=hu
    have hp:q % z.cells.size<z.cells.size:=Nat.mod_lt _ (by
     rcases Nat.eq_zero_or_pos z.cells.size with h|h
     ·rw [h] at hq;omega
     ·exact h)
    rw [getElem!_pos z.cells _ hp]
    simp
   have hst:=run_storeCells_at E.P (G.ob o).blk off T' (Builtin.zeroCells z.cells n).toList 0 c w g4 (by rw [hzl];omega) hz1
   simp only [Nat.add_zero] at hst
   have hh:=h ((Builtin.zeroCells z.cells n).toList.map AV.v) (by simpa using hzl)
   refine⟨_,_,G,_,_,?_,.refl G,qev (news:=(Builtin.zeroCells z.cells n).toList) hI.agree ho g4 (by rw [List.length_map,hzl];exact hfit) (by simp) (fun j a b h1 h2=>?_),.v _,hh⟩
   ·generalize a0.eval = ρ at hv' hst ⊢
    obtain⟨n',rfl⟩:∃ n',n=n'+1:=⟨n - 1,by omega⟩
    simp [execOp,resolve,invoke,builtin,hv',Builtin.clear_,run_underlying ht,zeroValue,typeInfo,hi,hz,hst,undef]
   ·rw [List.getElem?_map,h2] at h1
    simp at h1
    subst h1
    exact .v _
theorem qok {P:Program} {t e:TypeId} {sz:Nat} {agg:Bool} (hu:P.underlying t=some (.slice e)) (ht:tyOf P e=some (sz,agg)) (a:Option Addr) (len cap:Nat) (lo hi mx:Option Value) (i j m:Nat) (w:World)
  (hlo:match lo with|none=>i=0|some v=>∃ k,v = .int k (i:Int)) (hhi:match hi with|none=>j=len∧mx=none|some v=>∃ k,v = .int k (j:Int)) (hmx:match mx with|none=>m=cap|some v=>∃ k,v = .int k (m:Int)) (h1:i≤j) (h2:j≤m) (h3:m≤cap) :
  (Instr.slice t (.slice a len cap) lo hi mx).run P w = .ok (.slice (if m=i then a else a.map (·.add (i * sz))) (j - i) (m - i)) w:=by
 have hs:=(jz ht w).1
 cases lo with
 |none=>
  simp only at hlo
  subst hlo
  cases hi with
  |none=>
   obtain⟨rfl,rfl⟩:=hhi
   simp only at hmx
   subst hmx
   simp [Instr.slice,run_underlying hu,Instr.sliceBounds,hs]
  |some v=>
   obtain⟨k,rfl⟩:=hhi
   cases mx with
   |none=>
    simp only at hmx
    subst hmx
    simp [Instr.slice,run_underlying hu,Instr.sliceBounds,Instr.sliceBound,asIntOf,hs,h2]
   |some u=>
    obtain⟨k',rfl⟩:=hmx
    simp [Instr.slice,run_underlying hu,Instr.sliceBounds,Instr.sliceBound,asIntOf,hs,h2,h3]
 |some u=>
  obtain⟨k',rfl⟩:=hlo
  cases hi with
  |none=>
   obtain⟨rfl,rfl⟩:=hhi
   simp only at hmx
   subst hmx
   simp [Instr.slice,run_underlying hu,Instr.sliceBounds,Instr.sliceBound,asIntOf,hs,h1]
  |some v=>
   obtain⟨k,rfl⟩:=hhi
   cases mx with
   |none=>
    simp only at hmx
    subst hmx
    simp [Instr.slice,run_underlying hu,Instr.sliceBounds,Instr.sliceBound,asIntOf,hs,h1,h2]
   |some u=>
    obtain⟨k'',rfl⟩:=hmx
    simp [Instr.slice,run_underlying hu,Instr.sliceBounds,Instr.sliceBound,asIntOf,hs,h1,h2,h3]
theorem zg {x:Operand} {t e:TypeId} {lo hi mx:Option Operand} {sz:Nat} {agg:Bool} {o ver off len cap i j m:Nat} (hx:qf N s x = .os o ver off len cap) (hu:E.P.underlying t=some (.slice e)) (ht:tyOf E.P e=some (sz,agg))
  (hlo:match lo with|none=>i=0|some y=>∃ k,qf N s y = .v (.int k (i:Int))) (hhi:match hi with|none=>j=len∧mx=none|some y=>∃ k,qf N s y = .v (.int k (j:Int))) (hmx:match mx with|none=>m=cap|some y=>∃ k,qf N s y = .v (.int k (m:Int))) (h1:i≤j) (h2:j≤m) (h3:m≤cap)
  (h:AOps E rd N ops rest K (s.put d (.os o ver (if m=i then off else off+i * sz) (j - i) (m - i)))):AOps E rd N ops (⟨d,.slice t x lo hi mx,T,p,af,none⟩::rest) K s:=by
 refine qs rfl (qq nofun fun B0 w0 G a w _ hI=>?_)
 have he:=hI.eval_of hx
 generalize hv:a.eval x=v at he
 cases he with
 |os _ _ _ _ b _ hn hvr hb=>
  have hrun:=qok hu ht (some ⟨b,off,none⟩) len cap (lo.map a.eval) (hi.map a.eval) (mx.map a.eval) i j m w (by
   cases lo with
   |none=>exact hlo
   |some y=>obtain⟨k,hy⟩:=hlo;exact⟨k,hI.evalv hy⟩) (by
   cases hi with
   |none=>obtain⟨q1,q2⟩:=hhi;subst q2;exact⟨q1,rfl⟩
   |some y=>obtain⟨k,hy⟩:=hhi;exact⟨k,hI.evalv hy⟩) (by
   cases mx with
   |none=>exact hmx
   |some y=>obtain⟨k,hy⟩:=hmx;exact⟨k,hI.evalv hy⟩) h1 h2 h3
  refine⟨.slice (if m=i then some ⟨b,off,none⟩ else (some ⟨b,off,none⟩:Option Addr).map (·.add (i * sz))) (j - i) (m - i),w,G,_,s.st,?_,.refl G,hI.agree,?_,h⟩
  ·generalize a.eval = ρ at hv hrun ⊢
   simp only [execOp,hv]
   simp [Instr.sliceAt,run_underlying hu,hrun]
  ·have hadd:Addr.add ⟨b,off,none⟩ (i * sz)=⟨b,off+i * sz,none⟩:=Addr.add_lit ..
   by_cases hmi:m=i
   ·rw [if_pos hmi,if_pos hmi]
    exact .os o ver off (j - i) b (m - i) hn hvr hb
   ·rw [if_neg hmi,if_neg hmi,Option.map_some,hadd]
    exact .os o ver (off+i * sz) (j - i) b (m - i) hn hvr hb
theorem qbr {x y:Operand} {t u T':TypeId} {sz bytes:Nat} {ys:List AV} (hx:∀ (G:Gh) (v:Value),Rel G (qf N s x) v→∃ base,v = .slice base 0 0) (hy:∀ (G:Gh) (v:Value),Rel G (qf N s y) v→Rel G (.sl sz ys none) v)
  (ht:E.P.underlying t=some (.slice T')) (hu:E.P.underlying u=some (.slice T')) (hT:wh E.P T' sz bytes) (hone:jq (flat ys)=true) (h0:ys≠[]) (h63:ys.length≤maxLen) (hb:ys.length * bytes≤140737488355328)
  (h:∀ cap pad,(flat ys++pad).length=(cap+1) * sz→(∀ y∈ys,y.cells.length=sz)→ys.length≤cap+1→cap+1≤maxLen→AOps E rd N ops rest K (AS.put ⟨s.t,s.st++[.cells 0 T' (flat ys++pad)],s.df⟩ d (.os s.st.length 0 0 ys.length (cap+1)))):AOps E rd N ops (⟨d,.call ⟨.builtin .append,#[x,y],#[t,u]⟩,T,p,af,none⟩::rest) K s:=by
 refine qs rfl (qq nofun fun B0 w0 G a0 w _ hI=>?_)
 obtain⟨i,z,hi,hz,rfl,rfl,hzs⟩:=hT.ex
 obtain⟨news,h1,h2,h3⟩:=xd (P:=E.P) hI.agree (hy _ _ (hI.eval y)) (by simpa [jq] using hone)
 obtain⟨base,hv⟩:=hx _ _ (hI.eval x)
 have hlen:0<ys.length:=List.length_pos_iff.2 h0
 have hold:(Builtin.firstCells i.size 0 (.slice base 0 0)).run E.P w.drew = .ok ([]:List Value).toArray w.drew:=by
  cases base with
  |none=>simp [run_firstCells_none]
  |some a=>exact run_firstCells_some w.drew i.size 0 a 0 0 [] (by simp) (by simp)
 have hrun:=qay (ty:=T) ht hu (.inr ⟨_,rfl⟩) hi hz h1 base 0 0 [] hold (by omega) (by simp only [maxLen] at h63;omega) (by simp only [Nat.zero_add];rw [nextslicecap_zero (by omega)];omega)
 simp only [Nat.zero_add] at hrun
 have hge:=grownCap_ge w ys.length 0 T'
 have hle:=grownCap_le_maxLen w ys.length 0 T' h63
 generalize grownCap w ys.length 0 T'=cap at hrun hge hle
 obtain⟨cap,rfl⟩:∃ c,cap=c+1:=⟨cap - 1,by omega⟩
 generalize hzc:Builtin.zeroCells z.cells (cap+1 - ys.length)=zc at hrun
 have hzl:zc.size=(cap+1 - ys.length) * i.size:=by rw [← hzc,size_zeroCells,hzs]
 have hfy:(flat ys).length=ys.length * i.size:=zo h2
 have hdrew:Below w.heap.size w w.drew:=⟨rfl,rfl,rfl,Nat.le_refl _,fun _ _=>rfl⟩
 have hr:=w8 (G:=G) (cs:=flat ys) (ds:=zc.toList.map AV.v) (vs:=news) (us:=zc.toList) (by rw [hfy,h1.count]) h3 (fun j a b h1 h2=>by
  rw [List.getElem?_map,h2] at h1
  simp at h1
  subst h1
  exact .v _)
 have hA:=(hI.agree.fresh hdrew).newCells T' (([]:List Value).toArray++news.toArray++zc) (flat ys++zc.toList.map AV.v) (by simp [hfy,h1.count]) (fun j a b q1 q2=>hr j a b q1 (by rw [← q2];simp [← Array.getElem?_toList]))
 have hn:=hI.agree.n
 refine⟨_,_,_,_,_,?_,G.le_new _ _ _ _,hA,.os _ _ _ _ _ _ (by simp [Gh.new,hn]) (Nat.zero_le _) (fun _=>by simp [Gh.new,hn];rfl),h cap (zc.toList.map AV.v) ?_ h2 hge hle⟩
 ·generalize a0.eval = ρ at hrun hv ⊢
  simp [execOp,resolve,invoke,builtin,hv,hrun]
 ·have h1:zc.toList.length=(cap+1 - ys.length) * i.size:=by rw [← hzl];simp
  rw [List.length_append,hfy,List.length_map,h1,← Nat.add_mul]
  congr 1
  omega
theorem qin {x y:Operand} {t u T':TypeId} {sz bytes o:Nat} {xs ys:List AV} {a:AV} {ob:AObj} (hx:qf N s x=a) (hy:∀ (G:Gh) (v:Value),Rel G (qf N s y) v→Rel G (.sl sz ys none) v) (hV:Vec sz T' o xs a ob) (ho:s.st[o]? = some ob)
  (ht:E.P.underlying t=some (.slice T')) (hu:E.P.underlying u=some (.slice T')) (hT:wh E.P T' sz bytes) (hone:jq (flat ys)=true) (h63:xs.length+ys.length≤maxLen) (hb:(xs.length+ys.length) * bytes≤140737488355328)
  (h:∀ a' ob',Vec sz T' o (xs++ys) a' ob'→AOps E rd N ops rest K (AS.put ⟨s.t,s.st.set o ob',s.df⟩ d a')):AOps E rd N ops (⟨d,.call ⟨.builtin .append,#[x,y],#[t,u]⟩,T,p,af,none⟩::rest) K s:=by
 refine qs rfl (qq nofun fun B0 w0 G a0 w _ hI=>?_)
 obtain⟨news,h1,h2,h3⟩:=xd (P:=E.P) hI.agree (hy _ _ (hI.eval y)) (by simpa [jq] using hone)
 obtain⟨v',w',G',a',ob',e1,e2,e3,e4,e5⟩:=qil (ty:=T) hI.agree ht hu (.inr ⟨_,rfl⟩) hT hV ho (hI.eval_of hx) h1 h2 h3 h63 hb
 refine⟨v',w',G',_,_,?_,e2,e3,e4,h a' ob' e5⟩
 generalize a0.eval = ρ at e1
 simp [execOp,resolve,invoke,builtin,e1]
theorem qix {x y:Operand} {t u T':TypeId} {sz bytes:Nat} {c:AV} (hx:qf N s x=c) (hc:∀ G v,Rel G c v→∃ b n cp,v = .slice b n cp∧n≤cp) (hy:∀ (G:Gh) (v:Value),Rel G (qf N s y) v→Rel G (.sl sz [] none) v)
  (ht:E.P.underlying t=some (.slice T')) (hu:E.P.underlying u=some (.slice T')) (hT:wh E.P T' sz bytes) (h:AOps E rd N ops rest K (s.put d c)):AOps E rd N ops (⟨d,.call ⟨.builtin .append,#[x,y],#[t,u]⟩,T,p,af,none⟩::rest) K s:=by
 refine qs rfl (qq nofun fun B0 w0 G a0 w _ hI=>?_)
 obtain⟨i,z,hi,hz,rfl,rfl,hzs⟩:=hT.ex
 obtain⟨news,h1,h2,h3⟩:=xd (P:=E.P) hI.agree (hy _ _ (hI.eval y)) (by simp [flat])
 have hn0:news=[]:=List.eq_nil_of_length_eq_zero (by simpa using h1.count)
 subst hn0
 have hv:=hI.eval_of hx
 obtain⟨b,n,cp,hv2,hle⟩:=hc _ _ hv
 have hrun:=yv (ty:=T) ht hu (.inr ⟨_,rfl⟩) hi h1 b n cp hle
 refine⟨_,w,G,c,s.st,?_,.refl G,hI.agree,hv,h⟩
 rw [hv2]
 generalize a0.eval = ρ at hrun hv2
 simp [execOp,resolve,invoke,builtin,hv2,hrun]
end
end Go.Av
namespace Go.Av
open Go Go.RowKit
theorem qmb {P:Program} (w:World) (tS tR e:TypeId) (ht:P.underlying tS=some (.slice e)) (size:Nat) (hz:∀ w,(Go.sizeOf e).run P w = .ok size w)
  (a b:Addr) (la ca lb cb:Nat) (hne:a.block≠b.block) (tA tB:TypeId) (kA kB:Nat)
  (hsa:w.shape? a.block=some (tA,kA)) (hsb:w.shape? b.block=some (tB,kB)) (hkA:kA≠0)
  (hfb:w.frozen? b=false) (hfe:w.frozen? { block:=b.block,off:=kB }=false) :
  (Extern.SlicesOverlaps.overlaps #[tS,tS] #[tR] #[.slice (some a) la ca,.slice (some b) lb cb]).run P w = .ok (.bool false) w:=by
 have hnb:(a.block != b.block)=true:=by simpa using hne
 have hnb':(a.block == b.block)=false:=by simpa using hne
 change Sem.run P (α:=Value) (do
  let some t := (#[tS, tS] : Array TypeId)[0]? | stuck "slices.overlaps: no parameter types"
  let .slice elem ← underlying t | stuck "slices.overlaps: slice type expected"
  let size ← sizeOf elem
  match (some a:Option Addr),(some b:Option Addr) with
  |some a,some b=>
   if la=0∨lb=0∨size=0 then pure (Value.bool false)
   else if a.block != b.block && (← frozen a) && (← frozen b) then unsupported .addressObserved
   else do
    if a.block != b.block then do
     noView a;noView b
     if ← mayBeOne a b then return Value.bool ((← choose (.extern "sameAddr.stringBytes" 2)) == 1)
    pure (Value.bool (a.block == b.block && a.off<b.off+lb * size && b.off<a.off+la * size))
  | _,_=>pure (Value.bool false)) w=_
 by_cases h0:la=0∨lb=0∨size=0
 ·simp [run_underlying ht,hz,h0]
 ·cases kA with
  |zero=>exact absurd rfl hkA
  |succ kA=>
   cases hA:w.frozen? a <;> cases hA2:w.frozen? { block:=a.block,off:=kA+1 } <;>
    simp [run_underlying ht,hz,h0,hnb,hnb',frozen,noView,viewAt,mayBeOne,stringish,shape,Sem.run,hsa,hsb,hfb,hfe,hA,hA2]
section
variable {E : Env} {rd : Option Nat} {N : Nat} {ops : Array Oper} {K : AS → Prop} {s : AS} {rest : List Oper} {d : Option Tmp} {T : TypeId} {p : String} {af : Array Edge}
theorem qmq {x:Operand} {t0 e:TypeId} {ts:Array TypeId} {o ver off len cap:Nat} (hx:qf N s x = .os o ver off len cap) (ht:ts[0]? = some t0) (hu:E.P.underlying t0=some (.slice e))
  (h:AOps E rd N ops rest K (s.put d (Iv cap))):AOps E rd N ops (⟨d,.call ⟨.builtin .cap,#[x],ts⟩,T,p,af,none⟩::rest) K s:=by
 refine qs rfl (qq nofun fun B0 w0 G a w _ hI=>?_)
 have he:=hI.eval_of hx
 generalize hv:a.eval x=v at he
 cases he with
 |os _ _ _ _ b _ hn hvr hb=>
  refine⟨_,w,G,_,s.st,?_,.refl G,hI.agree,.v _,h⟩
  generalize a.eval = ρ at hv ⊢
  simp [execOp,resolve,invoke,builtin,hv,Builtin.cap_,ht,run_underlying hu,goInt]
theorem qlh {x y:Operand} {t u T':TypeId} {kn:IntKind} {sz bytes o ver n cap k:Nat} {cs:List AV} (hx:qf N s x = .os o ver 0 n cap) (hy:qf N s y=Iv (k:Nat)) (ho:s.st[o]? = some (.cells ver T' cs))
  (ht:E.P.underlying t=some (.slice T')) (hu:E.P.underlying u=some (.int kn)) (hT:wh E.P T' sz bytes) (hcap:cap<n+k) (hk:0<k) (hsz:0<sz) (hfit:n * sz≤cs.length) (h63:n+k≤maxLen) (hb:(n+k) * bytes≤140737488355328)
  (h:∀ cap' (zs:List AV),zs.length=(cap' - n) * sz→n+k≤cap'→cap'≤maxLen→AOps E rd N ops rest K (AS.put ⟨s.t,s.st++[.cells 0 T' (cs.take (n * sz)++zs)],s.df⟩ d (.os s.st.length 0 0 (n+k) cap'))):AOps E rd N ops (⟨d,.call ⟨.builtin .append,#[x,y],#[t,u]⟩,T,p,af,none⟩::rest) K s:=by
 refine qs rfl (qq nofun fun B0 w0 G a0 w _ hI=>?_)
 obtain⟨i,z,hi,hz,rfl,rfl,hzs⟩:=hT.ex
 have hyv:=hI.evalv hy
 have hv:=hI.eval_of hx
 generalize hv':a0.eval x=v at hv
 obtain⟨g0,g1,g2,g3,c,g4,g5,g6⟩:=hI.agree.ob o _ ho
 cases hv with
 |os _ _ _ _ b _ hn hv hbk=>
  have hbk:=hbk g1
  subst hbk
  have hold:(Builtin.firstCells i.size n (.slice (some ⟨(G.ob o).blk,0,none⟩) n cap)).run E.P w.drew = .ok (c.toList.take (n * i.size)).toArray w.drew:=by
   refine run_firstCells_some w.drew i.size n ⟨(G.ob o).blk,0,none⟩ n cap _ (by simp;omega) fun j y hy=>?_
   have e1':w.drew.heap[(G.ob o).blk]? = some (.cells c T' (0,0)):=g4
   rw [Addr.add_lit]
   rw [List.getElem?_take] at hy
   split at hy
   ·simp only [Array.getElem?_toList] at hy
    simp [World.cell?,e1',hy]
   ·simp at hy
  have hkb:k * i.bytes≤(n+k) * i.bytes:=Nat.mul_le_mul_right _ (by omega)
  have hrun:=Lib.run_append_grow_zeros w t u T T' i z .i64 kn ht hu hi hz (some ⟨(G.ob o).blk,0,none⟩) n cap _ hold k hk hsz hcap (by simp only [maxLen] at h63;omega) (by omega) (growslice_fits (by omega) hb)
  have hge:=grownCap_ge w (n+k) cap T'
  have hle:=grownCap_le_maxLen w (n+k) cap T' h63
  generalize grownCap w (n+k) cap T'=cap' at hrun hge hle
  have hzl:(Builtin.zeroCells z.cells k).size=k * i.size:=by rw [size_zeroCells,hzs]
  have hzl2:(Builtin.zeroCells z.cells (cap' - (n+k))).size=(cap' - (n+k)) * i.size:=by rw [size_zeroCells,hzs]
  generalize Builtin.zeroCells z.cells k=zc at hrun hzl
  generalize Builtin.zeroCells z.cells (cap' - (n+k))=zd at hrun hzl2
  have hdrew:Below w.heap.size w w.drew:=⟨rfl,rfl,rfl,Nat.le_refl _,fun _ _=>rfl⟩
  have e1:∀ (j:Nat) (a:AV) (b:Value),(cs.take (n * i.size))[j]? = some a→(c.toList.take (n * i.size))[j]? = some b→Rel G a b:=fun j a b h1 h2=>by
   rw [List.getElem?_take] at h1 h2
   split at h1
   ·rename_i hj
    rw [if_pos hj] at h2
    exact g6 j a b h1 (by simpa using h2)
   ·simp at h1
  have hr:=w8 (G:=G) (cs:=cs.take (n * i.size)) (ds:=(zc.toList++zd.toList).map AV.v) (vs:=c.toList.take (n * i.size)) (us:=zc.toList++zd.toList) (by simp;omega) e1 (fun j a b h1 h2=>by
   rw [List.getElem?_map,h2] at h1
   simp at h1
   subst h1
   exact .v _)
  have hA:=(hI.agree.fresh hdrew).newCells T' ((c.toList.take (n * i.size)).toArray++zc++zd) (cs.take (n * i.size)++(zc.toList++zd.toList).map AV.v) (by simp;omega) (fun j a b q1 q2=>hr j a b q1 (by rw [← q2];simp [← Array.getElem?_toList]))
  have hn:=hI.agree.n
  refine⟨_,_,_,_,_,?_,G.le_new _ _ _ _,hA,.os _ _ _ _ _ _ (by simp [Gh.new,hn]) (Nat.zero_le _) (fun _=>by simp [Gh.new,hn];rfl),h cap' _ ?_ hge hle⟩
  ·generalize a0.eval = ρ at hrun hv' hyv ⊢
   simp [execOp,resolve,invoke,builtin,hv',hyv,hrun]
  ·have h1:zc.toList.length=k * i.size:=by rw [← hzl];simp
   have h2:zd.toList.length=(cap' - (n+k)) * i.size:=by rw [← hzl2];simp
   rw [List.length_map,List.length_append,h1,h2,← Nat.add_mul]
   congr 1
   omega
theorem qru {f:FuncId} {x y:Operand} {ts:Array TypeId} {T':TypeId} {sz o ver off n c:Nat} {xs cs:List AV} {tip:Option Nat} (hx:qf N s x = .sl sz xs tip) (hy:qf N s y = .os o ver off n c) (ho:s.st[o]? = some (.cells ver T' cs)) (hxs:flat xs≠[])
  (hrun:∀ (w:World) (a b:Addr) (la ca lb cb:Nat) (tA tB:TypeId) (kA kB:Nat),a.block≠b.block→w.shape? a.block=some (tA,kA)→w.shape? b.block=some (tB,kB)→kA≠0→w.frozen? b=false→w.frozen? { block:=b.block,off:=kB }=false→(callFunc f #[.slice (some a) la ca,.slice (some b) lb cb]).run E.P w = .ok (.value (.bool false)) w)
  (h:AOps E rd N ops rest K (s.put d (Bv false))):AOps E rd N ops (⟨d,.call ⟨.value (.func f),#[x,y],ts⟩,T,p,af,none⟩::rest) K s:=by
 refine qs rfl (qq nofun fun B0 w0 G a w _ hI=>?_)
 have h1:=hI.eval_of hx
 have h2:=hI.eval_of hy
 generalize hvx:a.eval x=v at h1
 generalize hvy:a.eval y=u at h2
 obtain⟨g0,g1,g2,g3,cc,g4,g5,g6⟩:=hI.agree.ob o _ ho
 cases h1 with
 |sl0=>exact absurd rfl hxs
 |sl _ _ _ b off2 cap pub hp hw hlen hr hto hcap0=>
  cases h2 with
  |os _ _ _ _ b2 _ hn hv hb=>
   have hb:=hb g1
   subst hb
   obtain⟨c2,T2,fz,q1,q2⟩:=hI.agree.pub b pub hp
   have hne:b≠(G.ob o).blk:=fun e=>by rw [e,g3] at hp;simp at hp
   have hc2:c2.size≠0:=fun e=>by
    have h0:0<(flat xs).length:=List.length_pos_iff.2 hxs
    have h3:pub[off2]? = some pub[off2]:=List.getElem?_eq_getElem (by omega)
    have:=q2 off2 _ h3
    rw [Array.getElem?_eq_none (by omega)] at this
    simp at this
   have hq:=hrun w ⟨b,off2,none⟩ ⟨(G.ob o).blk,off,none⟩ xs.length cap n c T2 T' c2.size cc.size hne (by simp [World.shape?,q1]) (by simp [World.shape?,g4]) hc2 (by simp [World.frozen?,g4]) (by simp [World.frozen?,g4])
   refine⟨_,w,G,_,s.st,?_,.refl G,hI.agree,.v _,h⟩
   have he:a.eval (.func f) = .func (.func f) #[] #[]:=rfl
   generalize a.eval = ρ at he hvx hvy ⊢
   simp [execOp,resolve,Deferred.ofValue,he,invoke,hvx,hvy,hq]
theorem qs0 {x y:Operand} {t e:TypeId} {sz:Nat} {agg:Bool} {c:AV} (hx:qf N s x=c) (hc:∀ (G:Gh) (v:Value),Rel G c v→∃ base,v = .slice base 0 0) (hu:E.P.underlying t=some (.slice e)) (ht:tyOf E.P e=some (sz,agg)) (hy:∃ k,qf N s y = .v (.int k 0))
  (h:AOps E rd N ops rest K (s.put d c)):AOps E rd N ops (⟨d,.slice t x (some y) none none,T,p,af,none⟩::rest) K s:=by
 refine qs rfl (qq nofun fun B0 w0 G a w _ hI=>?_)
 have he:=hI.eval_of hx
 obtain⟨base,hv⟩:=hc _ _ he
 have hrun:=qok hu ht base 0 0 (some (a.eval y)) none none 0 0 0 w (by obtain⟨k,hy⟩:=hy;exact⟨k,hI.evalv hy⟩) ⟨rfl,rfl⟩ rfl (Nat.le_refl _) (Nat.le_refl _) (Nat.le_refl _)
 refine⟨.slice base 0 0,w,G,c,s.st,?_,.refl G,hI.agree,by rw [← hv];exact he,h⟩
 generalize a.eval = ρ at hv hrun ⊢
 simp only [execOp,hv]
 simp [Instr.sliceAt,run_underlying hu,hrun]
theorem qmw {l:List Oper} (L:List (Nat×AV)) (st':List AObj) (df':List Nat) (h:HasL s.t L) (hst:s.st=st') (hdf:s.df=df') (k:∀ t,AOps E rd N ops l K ⟨puts t L,st',df'⟩):AOps E rd N ops l K s:=by
 have:=k s.t
 rw [qet h,← hst,← hdf] at this
 exact this
end
end Go.Av
namespace Go.Av
open Go Go.RowKit
def qb9 (o:Oper):Bool:=match o.op with
 | .defer _=>false
 | _=>true
theorem qn3 {o:Oper} (h:qb9 o=true):∀ c,o.op≠.defer c:=fun c e=>by
 unfold qb9 at h
 rw [e] at h
 simp at h
theorem q30 {P:Program} {ops:Array Oper} {Q:Exit→Act→World→Prop} {l i:Nat} {K:Act→World→Prop} {a:Act} {w:World} (hnd:∀ o,ops[i]? = some o→qb9 o=true) (h:wpOpIn (fw none) 0 P ops Q i K a w):wpOpIn (fw (some l)) 0 P ops Q i K a w:=by
 unfold wpOpIn at *
 cases ho:ops[i]? with
 |none=>simp only [ho] at h ⊢;exact h
 |some o=>
  simp only [ho] at h ⊢
  split
  ·rename_i hw
   rw [if_pos hw] at h
   unfold Oper.wpIn at *
   rw [qbz (rd:=none) (qn3 (hnd o ho))] at h
   rw [qbz (rd:=some l) (qn3 (hnd o ho))]
   exact h
  ·rename_i hw
   rw [if_neg hw] at h
   exact h
theorem qot {P:Program} {ops:Array Oper} {Q:Exit→Act→World→Prop} {l:Nat} {md:Region.Mode} (hnd:ops.all qb9=true):∀ (fuel:Nat) (listed:Array Bool) (a:Act) (w:World),wpAnyIn (fw none) 0 P md ops Q fuel listed a w→wpAnyIn (fw (some l)) 0 P md ops Q fuel listed a w
 | 0,_,_,_,h=>h
 |fuel+1,listed,a,w,h=>⟨h.1,fun i hi=>q30 (fun o ho=>by
   rw [Array.all_eq_true] at hnd
   obtain⟨h1,h2⟩:=Array.getElem?_eq_some_iff.1 ho
   rw [← h2]
   exact hnd i h1) (wpOpIn_mono (fun a w=>qot hnd fuel _ a w) (h.2 i hi))⟩
theorem qys {E:Env} {rd:Option Nat} {N:Nat} {ops:Array Oper} {s:AS} {id:Nat} {Q:Exit→AS→Prop} {n:Nat} (hm:E.P.follows .mixedOrders=true) (hd:ops.all qb9=true) (hn:ops.size=n) (h:AZ E N ops n (Array.replicate n false) (Q .normal) s):AWp E rd N (.region id ops true) Q s:=by
 cases rd with
 |none=>exact qfo hm hn h
 |some l=>
  subst hn
  refine⟨fun B0 w0 G a w hL hI=>?_⟩
  have hBl:Below w.heap.size w { w with drawn:=w.drawn+1 }:=⟨rfl,rfl,rfl,Nat.le_refl _,fun _ _=>rfl⟩
  have hI2:Inv B0 w0 N G s a { w with drawn:=w.drawn+1 }:=⟨hI.agree.fresh hBl,hI.defers,hI.size,hI.tmps⟩
  have:=h.run B0 w0 G a _ hL hI2 (fun a' w'=>∃ (G':Gh) (s':AS),G.le G'∧Inv B0 w0 N G' s' a' w'∧Q .normal s') fun G' s' a' w' hG hI' hk=>⟨G',s',hG,hI',hk⟩
  refine wpIn_mono (wpIn_region_any hm (qot hd _ _ _ _ this)) fun e a' w' hq=>?_
  cases e with
  |normal=>exact hq
  | _=>exact hq.elim
def qam (o:Oper):List Nat:=(o.after.toList.filter fun e=>Region.binds .any e).map (·.on)
def addL (L:Nat→Bool) (i:Nat):Nat→Bool:=fun k=>Nat.beq k i ||L k
def qdo:Nat→List Oper→Bool
 | _,[]=>true
 |i,o::r=>(qam o).all (fun j=>Nat.blt j i) && qdo (i+1) r
def qiw (E:Env) (N:Nat) (ops:Array Oper) (J:(Nat→Bool)→AS→Prop):Nat→List Oper→Prop
 | _,[]=>True
 |i,o::r=>(∀ L s,L i=false→(∀ j,(qam o).contains j=true→L j=true)→J L s→AOps E none N ops [o] (J (addL L i)) s)∧qiw E N ops J (i+1) r
theorem qon {E:Env} {N:Nat} {ops:Array Oper} {J:(Nat→Bool)→AS→Prop}:∀ {l:List Oper} {i0 k:Nat} {o:Oper},qiw E N ops J i0 l→l[k]? = some o →
  ∀ L s,L (i0+k)=false→(∀ j,(qam o).contains j=true→L j=true)→J L s→AOps E none N ops [o] (J (addL L (i0+k))) s
 | [],_,_,_,_,h=>by simp at h
 |o'::r,i0,0,o,hs,h=>by
  simp only [List.getElem?_cons_zero,Option.some.injEq] at h
  subst h
  exact hs.1
 |o'::r,i0,k+1,o,hs,h=>by
  have:=qon hs.2 (by simpa using h)
  rw [show i0+1+k=i0+(k+1) by omega] at this
  exact this
theorem qnc:∀ {l:List Oper} {i0 k:Nat} {o:Oper},qdo i0 l=true→l[k]? = some o→∀ j∈qam o,j<i0+k
 | [],_,_,_,_,h=>by simp at h
 |o'::r,i0,0,o,hs,h=>by
  simp only [List.getElem?_cons_zero,Option.some.injEq] at h
  subst h
  simp only [qdo,Bool.and_eq_true] at hs
  intro j hj
  have:=List.all_eq_true.1 hs.1 j hj
  simpa [Nat.blt_eq] using this
 |o'::r,i0,k+1,o,hs,h=>by
  simp only [qdo,Bool.and_eq_true] at hs
  have:=qnc hs.2 (show r[k]? = some o by simpa using h)
  intro j hj
  have:=this j hj
  omega
def lof (listed:Array Bool):Nat→Bool:=fun k=>listed.getD k false
theorem q8n {listed:Array Bool} {i:Nat} (hi:i<listed.size):lof (listed.setIfInBounds i true)=addL (lof listed) i:=by
 funext k
 unfold lof addL
 by_cases h:k=i
 ·subst h
  simp [Array.getD,hi]
 ·have hb:Nat.beq k i=false:=zp h
  rw [hb,Bool.false_or]
  simp only [Array.getD_eq_getD_getElem?,Array.getElem?_setIfInBounds]
  rw [if_neg (fun e=>h e.symm)]
theorem qqf:∀ {l:List Bool} {i:Nat},l[i]? = some false→(l.set i true).count false+1=l.count false
 | [],_,h=>by simp at h
 |b::l,0,h=>by
  simp only [List.getElem?_cons_zero,Option.some.injEq] at h
  subst h
  simp
 |b::l,i+1,h=>by
  have:=qqf (l:=l) (i:=i) (by simpa using h)
  rw [List.set_cons_succ,List.count_cons,List.count_cons]
  omega
theorem qjt {l:List Oper} {listed:Array Bool} {i:Nat}:i∈Region.ready .any l.toArray listed↔listed.getD i true=false∧∃ o,l[i]? = some o∧∀ j∈qam o,lof listed j=true:=by
 unfold Region.ready
 simp only [List.mem_filter,List.mem_range,Bool.and_eq_true,Bool.not_eq_true',List.size_toArray,List.getElem?_toArray]
 constructor
 ·rintro⟨h1,h2,h3⟩
  refine⟨h2,l[i],List.getElem?_eq_getElem h1,fun j hj=>?_⟩
  rw [List.getElem?_eq_getElem h1] at h3
  simp only [Option.map_some,Option.getD_some] at h3
  unfold qam at hj
  obtain⟨e,he,rfl⟩:=List.mem_map.1 hj
  obtain⟨he1,he2⟩:=List.mem_filter.1 he
  have:=Array.all_eq_true'.1 h3 e (by simpa using he1)
  rw [he2] at this
  simpa [lof] using this
 ·rintro⟨h2,o,ho,h3⟩
  refine⟨lt_of_getElem? ho,h2,?_⟩
  rw [ho]
  simp only [Option.map_some,Option.getD_some]
  rw [Array.all_eq_true']
  intro e he
  cases hb:Region.binds .any e with
  |false=>rfl
  |true=>
   have:=h3 e.on (by
    unfold qam
    exact List.mem_map.2 ⟨e,List.mem_filter.2 ⟨by simpa using he,hb⟩,rfl⟩)
   simpa [lof] using this
theorem qsq {P:Nat→Prop}:∀ {l:List Nat},(∀ i∈l,P i)→qr4 P l
 | [],_=>trivial
 |i::r,h=>⟨h i (by simp),qsq fun j hj=>h j (by simp [hj])⟩
theorem AOps.mono' {E:Env} {rd:Option Nat} {N:Nat} {ops:Array Oper} {K K':AS→Prop} {s:AS} {l:List Oper} (h:AOps E rd N ops l K' s) (hk:∀ s,K' s→K s):AOps E rd N ops l K s:=
 ⟨fun B0 w0 G a w hL hI Q hQ=>h.run B0 w0 G a w hL hI Q fun G' s' a' w' hG hI' hK=>hQ G' s' a' w' hG hI' (hk _ hK)⟩
theorem az_J {E:Env} {N:Nat} {l:List Oper} {J:(Nat→Bool)→AS→Prop} {K:AS→Prop} (hd:qdo 0 l=true) (hs:qiw E N l.toArray J 0 l) (hend:∀ L s,(∀ i,i<l.length→L i=true)→J L s→K s) :
  ∀ (fuel:Nat) (listed:Array Bool) (s:AS),listed.size=l.length→listed.toList.count false≤fuel→J (lof listed) s→AZ E N l.toArray fuel listed K s:=by
 intro fuel
 induction fuel with
 |zero=>
  intro listed s hsz hc hJ
  have hall:∀ i,i<l.length→lof listed i=true:=fun i hi=>by
   have h0:listed.toList.count false=0:=by omega
   have hi':i<listed.size:=by omega
   have hlo:lof listed i=listed[i]:=by simp [lof,hi']
   rw [hlo]
   cases hb:listed[i] with
   |true=>rfl
   |false=>exact absurd (by rw [← hb];simp) (List.count_eq_zero.1 h0)
  have hr:Region.ready .any l.toArray listed=[]:=by
   rw [List.eq_nil_iff_forall_not_mem]
   intro i hi
   obtain⟨h1,o,ho,_⟩:=qjt.1 hi
   have hi':=lt_of_getElem? ho
   have:=hall i hi'
   unfold lof at this
   have hi2:i<listed.size:=by omega
   simp only [Array.getD,hi2,dite_true] at this h1
   rw [this] at h1
   simp at h1
  exact qaf hr (hend _ s hall hJ)
 |succ fuel ih=>
  intro listed s hsz hc hJ
  by_cases hr:Region.ready .any l.toArray listed=[]
  ·refine qaf hr (hend _ s (fun i=>?_) hJ)
   induction i using Nat.strongRecOn with
   | _ i ihi=>
    intro hi
    cases hb:lof listed i with
    |true=>rfl
    |false=>
     exfalso
     have hm:i∈Region.ready .any l.toArray listed:=by
      refine qjt.2 ⟨?_,l[i],List.getElem?_eq_getElem hi,fun j hj=>?_⟩
      ·have hi2:i<listed.size:=by omega
       unfold lof at hb
       simp only [Array.getD,hi2,dite_true] at hb ⊢
       exact hb
      ·have:=qnc hd (List.getElem?_eq_getElem hi) j hj
       exact ihi j (by omega) (by omega)
     rw [hr] at hm
     simp at hm
  ·refine vi _ rfl ?_ (qsq fun i hi=>?_)
   ·cases h:Region.ready .any l.toArray listed with
    |nil=>exact absurd h hr
    |cons a r=>rfl
   ·obtain⟨h1,o,ho,h3⟩:=qjt.1 hi
    have hil:=lt_of_getElem? ho
    have hi2:i<listed.size:=by omega
    refine⟨o,by simpa using ho,?_⟩
    have hl:lof listed i=false:=by
     unfold lof
     simp only [Array.getD,hi2,dite_true] at h1 ⊢
     exact h1
    have:=qon hs ho (lof listed) s (by rw [Nat.zero_add];exact hl) (fun j hj=>h3 j (by simpa using hj)) hJ
    rw [Nat.zero_add] at this
    refine this.mono' fun s' hJ'=>ih _ s' (by simpa using hsz) ?_ (by rw [q8n hi2];exact hJ')
    have hg:listed.toList[i]? = some false:=by
     have:listed[i]=false:=by
      simp only [Array.getD,hi2,dite_true] at h1
      exact h1
     simp [hi2,this]
    have:=qqf hg
    rw [Array.toList_setIfInBounds]
    omega
theorem q09 {E:Env} {rd:Option Nat} {N:Nat} {s:AS} {id:Nat} {l:List Oper} {Q:Exit→AS→Prop} (hm:E.P.follows .mixedOrders=true) (hnd:l.toArray.all qb9=true) (hd:qdo 0 l=true) (J:(Nat→Bool)→AS→Prop)
  (h0:J (fun _=>false) s) (hend:∀ L s,(∀ i,i<l.length→L i=true)→J L s→Q .normal s) (hs:qiw E N l.toArray J 0 l):AWp E rd N (.region id l.toArray true) Q s:=by
 refine qys hm hnd (n:=l.length) (by simp) (az_J hd hs hend _ _ _ (by simp) ?_ ?_)
 ·simp only [Array.toList_replicate,List.count_replicate]
  split <;> omega
 ·have:lof (Array.replicate l.length false)=fun _=>false:=by
   funext k
   unfold lof
   simp only [Array.getD_eq_getD_getElem?,Array.getElem?_replicate]
   split <;> rfl
  rw [this]
  exact h0
inductive SV where
 |a (x:AV)
 |i (n:Int)
 |s (l:List UInt8)
 |tt
 |ff
 |b (c:Bool)
 |p (q:Prop) (h:Decidable q)
 |bx (k off:Nat)
 |tp (k:Nat)
 |ag (cs:List SV)
 |tu (cs:List SV)
 |fn (f:Fn) (xs ys:List SV)
 |ifc (t:TypeId) (x:SV)
def bxAt:AV→Nat→AV
 | .bx o v _,off=>.bx o v off
 | .os o v _ _ _,off=>.bx o v off
 | _,off=>.bx 0 0 off
def tpAt (x:AV):AV:=bif x.one then x else Bv false
mutual
def SV.ev (ρ : Nat→AV):SV→AV
 | .a x=>x
 | .i n=>Iv n
 | .s l=>Sv l
 | .tt=>Bv true
 | .ff=>Bv false
 | .b c=>Bv c
 | .p q h=>Bv (@decide q h)
 | .bx k off=>bxAt (ρ k) off
 | .tp k=>tpAt (ρ k)
 | .ag cs=>.ag (SV.evs ρ cs)
 | .tu cs=>.tu (SV.evs ρ cs)
 | .fn f xs ys=>.fn f (SV.evs ρ xs) (SV.evs ρ ys)
 | .ifc t x=>.ifc t (SV.ev ρ x)
def SV.evs (ρ : Nat→AV):List SV→List AV
 | []=>[]
 |x::r=>SV.ev ρ x::SV.evs ρ r
end
mutual
def SV.all (f:Nat→Bool):SV→Bool
 | .bx k _=>f k
 | .tp k=>f k
 | .ag cs=>SV.alls f cs
 | .tu cs=>SV.alls f cs
 | .fn _ xs ys=>SV.alls f xs && SV.alls f ys
 | .ifc _ x=>SV.all f x
 | _=>true
def SV.alls (f:Nat→Bool):List SV→Bool
 | []=>true
 |x::r=>SV.all f x && SV.alls f r
end
theorem jl (ρ : Nat→AV):∀ l:List SV,SV.evs ρ l=l.map (SV.ev ρ)
 | []=>rfl
 |x::r=>by rw [SV.evs,jl ρ r];rfl
mutual
theorem yl {f:Nat→Bool} {ρ ρ':Nat→AV} (h:∀ k,f k=true→ρ' k = ρ k):∀ v:SV,v.all f=true→v.ev ρ'=v.ev ρ
 | .a _,_=>rfl
 | .i _,_=>rfl
 | .s _,_=>rfl
 | .tt,_=>rfl
 | .ff,_=>rfl
 | .b _,_=>rfl
 | .p _ _,_=>rfl
 | .bx k off,hv=>by simp only [SV.all] at hv;simp only [SV.ev,h k hv]
 | .tp k,hv=>by simp only [SV.all] at hv;simp only [SV.ev,h k hv]
 | .ag cs,hv=>by simp only [SV.all] at hv;simp only [SV.ev,xb h cs hv]
 | .tu cs,hv=>by simp only [SV.all] at hv;simp only [SV.ev,xb h cs hv]
 | .fn f xs ys,hv=>by simp only [SV.all,Bool.and_eq_true] at hv;simp only [SV.ev,xb h xs hv.1,xb h ys hv.2]
 | .ifc t x,hv=>by simp only [SV.all] at hv;simp only [SV.ev,yl h x hv]
theorem xb {f:Nat→Bool} {ρ ρ':Nat→AV} (h:∀ k,f k=true→ρ' k = ρ k):∀ l:List SV,SV.alls f l=true→SV.evs ρ' l=SV.evs ρ l
 | [],_=>rfl
 |x::r,hv=>by simp only [SV.alls,Bool.and_eq_true] at hv;simp only [SV.evs,yl h x hv.1,xb h r hv.2]
end
mutual
theorem all_mono {f g:Nat→Bool} (h:∀ k,f k=true→g k=true):∀ v:SV,v.all f=true→v.all g=true
 | .a _,_=>rfl
 | .i _,_=>rfl
 | .s _,_=>rfl
 | .tt,_=>rfl
 | .ff,_=>rfl
 | .b _,_=>rfl
 | .p _ _,_=>rfl
 | .bx k off,hv=>h k hv
 | .tp k,hv=>h k hv
 | .ag cs,hv=>qar h cs hv
 | .tu cs,hv=>qar h cs hv
 | .fn f xs ys,hv=>by simp only [SV.all,Bool.and_eq_true] at hv ⊢;exact⟨qar h xs hv.1,qar h ys hv.2⟩
 | .ifc t x,hv=>all_mono h x hv
theorem qar {f g:Nat→Bool} (h:∀ k,f k=true→g k=true):∀ l:List SV,SV.alls f l=true→SV.alls g l=true
 | [],_=>rfl
 |x::r,hv=>by simp only [SV.alls,Bool.and_eq_true] at hv ⊢;exact⟨all_mono h x hv.1,qar h r hv.2⟩
end
inductive SR where
 |cells (T:TypeId) (cs:List SV)
 |tip (sz:Nat) (T:TypeId) (xs:List AV)
 |own (sz:Nat) (T:TypeId) (xs:List AV)
 |obj (P:AObj→AV→Prop)
  |rows (T:TypeId) (ys:List AV) (cs:List SV)
def SR.all (f:Nat→Bool):SR→Bool
 | .cells _ cs=>SV.alls f cs
 | .tip _ _ _=>true
 | .own _ _ _=>true
 | .obj _=>true
 | .rows _ _ cs=>SV.alls f cs
structure qaa (c:AV):Prop where
 val:∀ (G:Gh) (v:Value),Rel G c v→∃ base,v = .slice base 0 0
 one:c.one=true
 len:lenA c=some 0
 bx:∀ (o ver off len cap:Nat),c≠.os o ver off len (cap+1)
 nb:∀ (o ver off:Nat),c≠.bx o ver off
 ns:∀ (sz:Nat) (xs:List AV) (t:Nat),c≠.sl sz xs (some t)
theorem ql5 (base:Option Addr):qaa (.v (.slice base 0 0)):=⟨fun G v h=>by cases h;exact⟨base,rfl⟩,rfl,rfl,by simp,by simp,by simp⟩
theorem qjo (o v f:Nat):qaa (.os o v f 0 0):=⟨fun G v h=>by cases h;exact⟨_,rfl⟩,rfl,rfl,by simp,by simp,by simp⟩
def OwnS (S:List AObj) (sz:Nat) (T:TypeId) (xs:List AV) (c:AV):Prop:=
 (xs=[]∧qaa c)∨∃ o ver cap pad,c = .os o ver 0 xs.length (cap+1)∧S[o]? = some (.cells ver T (flat xs++pad))∧(flat xs++pad).length=(cap+1) * sz∧(∀ x∈xs,x.cells.length=sz)∧xs.length≤cap+1∧cap+1≤maxLen
def qy:AV→Option Nat
 | .bx o _ _=>some o
 | .sl _ _ (some t)=>some t
 | .os o _ _ _ (_+1)=>some o
 | .mp o=>some o
 | _=>none
def SR.ok (ρ : Nat→AV) (S:List AObj) (c:AV):SR→Prop
 | .cells T cs=>∃ o v,c = .bx o v 0∧S[o]? = some (.cells v T (SV.evs ρ cs))∧v=0
 | .tip sz T xs=>TipO 0 S sz T xs c
 | .own sz T xs=>OwnS S sz T xs c
 | .obj P=>∃ o x,qy c=some o∧S[o]? = some x∧x≠.dfr∧P x c
 | .rows T ys cs=>OwnS S 1 T (ys++SV.evs ρ cs) c
theorem SR.all_mono {f g:Nat→Bool} (h:∀ k,f k=true→g k=true):∀ r:SR,r.all f=true→r.all g=true
 | .cells _ cs,hr=>qar h cs hr
 | .tip _ _ _,_=>rfl
 | .own _ _ _,_=>rfl
 | .obj _,_=>rfl
 | .rows _ _ cs,hr=>qar h cs hr
theorem qaa.nm {o:Nat} (h:qaa (.mp o)):False:=by
 obtain⟨_,e⟩:=h.val ⟨fun _=>none,fun _=>⟨0,0,0,true⟩,o+1⟩ (.map (some 0)) (.mp _ _ (Nat.lt_succ_self _) rfl rfl)
 cases e
theorem OwnS.loc {S:List AObj} {sz:Nat} {T:TypeId} {xs:List AV} {c:AV} (h:OwnS S sz T xs c) {o:Nat} (ho:qy c=some o):∃ ver cap pad,c = .os o ver 0 xs.length (cap+1)∧S[o]? = some (.cells ver T (flat xs++pad))∧(flat xs++pad).length=(cap+1) * sz∧(∀ x∈xs,x.cells.length=sz)∧xs.length≤cap+1∧cap+1≤maxLen:=by
 rcases h with⟨_,h⟩ | ⟨o',ver,cap,pad,rfl,h⟩
 ·unfold qy at ho
  split at ho
  ·exact absurd rfl (h.nb _ _ _)
  ·exact absurd rfl (h.ns _ _ _)
  ·exact absurd rfl (h.bx _ _ _ _ _)
  ·exact h.nm.elim
  ·simp at ho
 ·simp only [qy,Option.some.injEq] at ho
  subst ho
  exact⟨ver,cap,pad,rfl,h⟩
theorem qaa.loc {c:AV} (h:qaa c):qy c=none:=by
 unfold qy
 split
 ·exact absurd rfl (h.nb _ _ _)
 ·exact absurd rfl (h.ns _ _ _)
 ·exact absurd rfl (h.bx _ _ _ _ _)
 ·exact h.nm.elim
 ·rfl
theorem qaa.wk {c:AV} (h:qaa c) (sz:Nat):∀ (G:Gh) (v:Value),Rel G c v→Rel G (.sl sz [] none) v:=fun G v hv=>by
 obtain⟨base,rfl⟩:=h.val G v hv
 exact .sl0 sz none _ _ (by simp)
theorem OwnS.of {S S':List AObj} {sz:Nat} {T:TypeId} {xs:List AV} {c:AV} (h:OwnS S sz T xs c) (hs:∀ o,qy c=some o→S'[o]? = S[o]?):OwnS S' sz T xs c:=by
 rcases h with h | ⟨o,ver,cap,pad,rfl,h1,h2⟩
 ·exact .inl h
 ·exact .inr ⟨o,ver,cap,pad,rfl,(hs o rfl).trans h1,h2⟩
theorem SR.ok_lt {ρ : Nat→AV} {S:List AObj} {c:AV} {r:SR} (h:r.ok ρ S c) {o:Nat} (ho:qy c=some o):o<S.length:=by
 cases r with
 |cells T cs=>
  obtain⟨o',v,rfl,h,_⟩:=h
  simp only [qy,Option.some.injEq] at ho
  subst ho
  exact lt_of_getElem? h
 |tip sz T xs=>
  rcases h with (⟨_,rfl⟩ | ⟨t,rfl,ht,_⟩) | ⟨_,o',v,f,rfl⟩
  ·simp [qy] at ho
  ·simp only [qy,Option.some.injEq] at ho
   subst ho
   exact lt_of_getElem? ht
  ·simp [qy] at ho
 |own sz T xs=>
  obtain⟨_,_,_,_,h,_⟩:=OwnS.loc h ho
  exact lt_of_getElem? h
 |obj P=>
  obtain⟨o',x,h1,h2,_⟩:=h
  rw [h1,Option.some.injEq] at ho
  subst ho
  exact lt_of_getElem? h2
 |rows T ys cs=>
  obtain⟨_,_,_,_,h,_⟩:=OwnS.loc h ho
  exact lt_of_getElem? h
theorem SR.ok_of {ρ ρ':Nat→AV} {S S':List AObj} {c:AV} {r:SR} {f:Nat→Bool} (hf:r.all f=true) (hr:∀ k,f k=true→ρ' k = ρ k) (h:r.ok ρ S c) (hs:∀ o,qy c=some o→S'[o]? = S[o]?):r.ok ρ' S' c:=by
 cases r with
 |cells T cs=>
  obtain⟨o,v,rfl,h,h0⟩:=h
  refine⟨o,v,rfl,?_,h0⟩
  rw [hs o rfl,xb hr cs hf]
  exact h
 |tip sz T xs=>
  rcases h with (⟨h1,h2⟩ | ⟨t,rfl,ht,h0⟩)|h
  ·exact .inl (.inl ⟨h1,h2⟩)
  ·exact .inl (.inr ⟨t,rfl,(hs t rfl).trans ht,h0⟩)
  ·exact .inr h
 |own sz T xs=>exact OwnS.of h hs
 |obj P=>
  obtain⟨o,x,h1,h2,h3⟩:=h
  exact⟨o,x,h1,(hs o h1).trans h2,h3⟩
 |rows T ys cs=>
  have h2:=OwnS.of (S':=S') (show OwnS S 1 T (ys++SV.evs ρ cs) c from h) hs
  show OwnS S' 1 T (ys++SV.evs ρ' cs) c
  rw [xb hr cs hf]
  exact h2
structure SatF (S:List AObj) (ρ : Nat→AV) (H:Nat→Option SR):Prop where
 ok:∀ k r,H k=some r→r.ok ρ S (ρ k)
 sep:∀ k k' r r',k≠k'→H k=some r→H k'=some r'→∀ o,qy (ρ k)=some o→qy (ρ k')≠some o
def lkS {α : Type}:List (Nat×α)→Nat→Option α
 | [],_=>none
 |(i,v)::r,k=>bif Nat.beq i k then some v else lkS r k
theorem qav {α : Type}:∀ (l r:List (Nat×α)) (k:Nat),lkS (l++r) k=match lkS l k with|some v=>some v|none=>lkS r k
 | [],_,_=>rfl
 |(i,v)::l,r,k=>by
  simp only [List.cons_append,lkS]
  cases Nat.beq i k
  ·simp only [cond_false];exact qav l r k
  ·rfl
def hpF (hp:List (Nat×Option SR)) (k:Nat):Option SR:=match lkS hp k with|some r=>r|none=>none
def chF (ch:List (Nat×Option SR)) (H:Nat→Option SR) (k:Nat):Option SR:=match lkS ch k with|some r=>r|none=>H k
theorem qxo (ch hp:List (Nat×Option SR)):hpF (ch++hp)=chF ch (hpF hp):=by
 funext k
 unfold hpF chF
 rw [qav]
 cases lkS ch k <;> rfl
def memN (ks:List Nat) (k:Nat):Bool:=ks.any (Nat.beq k)
def resF (ks:List Nat) (H:Nat→Option SR) (k:Nat):Option SR:=bif memN ks k then H k else none
theorem kh {ks:List Nat} {H:Nat→Option SR} {k:Nat} {r:SR} (h:resF ks H k=some r):memN ks k=true∧H k=some r:=by
 unfold resF at h
 cases hm:memN ks k with
 |true=>rw [hm] at h;exact⟨rfl,h⟩
 |false=>rw [hm] at h;simp at h
theorem SatF.res {S:List AObj} {ρ : Nat→AV} {H:Nat→Option SR} (h:SatF S ρ H) (ks:List Nat):SatF S ρ (resF ks H):=
 ⟨fun k r hk=>h.ok k r (kh hk).2,fun k k' r r' hne h1 h2=>h.sep k k' r r' hne (kh h1).2 (kh h2).2⟩
structure Ef where
 val:SV
 ks:List Nat
 ch:List (Nat×Option SR)
 nx:Nat
def Ef.wf (e:Ef) (nx:Nat):Bool:=Nat.ble nx e.nx && e.val.all (fun k=>Nat.blt k e.nx) && e.ch.all (fun p=>Nat.blt p.1 e.nx && (memN e.ks p.1 ||Nat.ble nx p.1) && match p.2 with|some r=>r.all (fun k=>Nat.blt k e.nx)|none=>true)
def SlOk (ρ : Nat→AV) (t:Nat→AV) (sl:List (Nat×SV)):Prop:=∀ d v,lkS sl d=some v→t d=v.ev ρ
structure qd8 (ρ : Nat→AV) (S:List AObj) (nx:Nat) (H:Nat→Option SR) (e:Ef) (ρ':Nat→AV) (S':List AObj):Prop where
 old:∀ k,(k<nx∨e.nx≤k)→ρ' k = ρ k
 sat:SatF S' ρ' (chF e.ch (resF e.ks H))
 len:S.length≤S'.length
 fr:∀ j,j<S.length→(∀ k r,resF e.ks H k=some r→qy (ρ k)≠some j)→S'[j]? = S[j]?
 loc:∀ k r,chF e.ch (resF e.ks H) k=some r→∀ o,qy (ρ' k)=some o→S.length≤o∨∃ k' r',resF e.ks H k'=some r'∧qy (ρ k')=some o
def Loc (E:Env) (N:Nat) (ops:Array Oper) (o:Oper) (nx:Nat) (sl:List (Nat×SV)) (H:Nat→Option SR) (e:Ef):Prop:=
 ∀ (df:List Nat) (rd:Option Nat) (K:AS→Prop) (rest:List Oper) (ρ : Nat→AV) (t:Nat→AV) (S:List AObj),SlOk ρ t sl→SatF S ρ (resF e.ks H) →
  (∀ ρ' S',qd8 ρ S nx H e ρ' S'→AOps E rd N ops rest K (AS.put ⟨t,S',df⟩ o.dst (e.val.ev ρ')))→AOps E rd N ops (o::rest) K ⟨t,S,df⟩
structure Conf where
 sl:List (Nat×SV)
 hp:List (Nat×Option SR)
 nx:Nat
def Conf.app (C:Conf) (d:Option Tmp) (e:Ef):Conf:=⟨match d with|some d=>(d,e.val)::C.sl|none=>C.sl,e.ch++C.hp,e.nx⟩
structure SatR (S0:List AObj) (F:Nat→Prop) (C:Conf) (ρ : Nat→AV) (t:Nat→AV) (S:List AObj):Prop where
 sl:SlOk ρ t C.sl
 hp:SatF S ρ (hpF C.hp)
 own:∀ k r,hpF C.hp k=some r→∀ o,qy (ρ k)=some o→S0.length≤o∨F o
 low:∀ j,j<S0.length→¬ F j→S[j]? = S0[j]?
 len:S0.length≤S.length
 wsl:∀ d v,lkS C.sl d=some v→v.all (fun k=>Nat.blt k C.nx)=true
 whp:∀ k r,hpF C.hp k=some r→k<C.nx∧r.all (fun k=>Nat.blt k C.nx)=true
structure Bs where
 S0:List AObj
 F:Nat→Prop
 ρ0:Nat→AV
 n0:Nat
 dz:Prop
structure Frm (B:Bs) (C:Conf) (ρ : Nat→AV) (df:List Nat) (S:List AObj):Prop where
 dm:∀ d∈df,S[d]? = some .dfr∧B.S0.length≤d
 nd:df.Nodup
 rig:∀ k,k<B.n0→ρ k=B.ρ0 k
 le:B.n0≤C.nx
 dz:B.dz→df=[]
def SatC (B:Bs) (C:Conf) (s:AS):Prop:=∃ ρ,Frm B C ρ s.df s.st∧SatR B.S0 B.F C ρ s.t s.st
theorem SR.ok_dfr {ρ : Nat→AV} {S:List AObj} {c:AV} {r:SR} (h:r.ok ρ S c) {o:Nat} (ho:qy c=some o):S[o]?≠some .dfr:=by
 cases r with
 |cells T cs=>
  obtain⟨o',v,rfl,h,_⟩:=h
  simp only [qy,Option.some.injEq] at ho
  subst ho
  rw [h]
  simp
 |tip sz T xs=>
  rcases h with (⟨_,rfl⟩ | ⟨t,rfl,ht,_⟩) | ⟨_,o',v,f,rfl⟩
  ·simp [qy] at ho
  ·simp only [qy,Option.some.injEq] at ho
   subst ho
   rw [ht]
   simp
  ·simp [qy] at ho
 |own sz T xs=>
  obtain⟨_,_,_,_,h,_⟩:=OwnS.loc h ho
  rw [h]
  simp
 |obj P=>
  obtain⟨o',x,h1,h2,h3,_⟩:=h
  rw [h1,Option.some.injEq] at ho
  subst ho
  rw [h2]
  simpa using h3
 |rows T ys cs=>
  obtain⟨_,_,_,_,h,_⟩:=OwnS.loc h ho
  rw [h]
  simp
theorem ju {a b:Nat} (h:Nat.blt a b=true):a<b:=by simpa [Nat.blt_eq] using h
theorem ya {a b:Nat} (h:a<b):Nat.blt a b=true:=by simpa [Nat.blt_eq] using h
theorem qdb {e:Ef} {nx:Nat} (h:e.wf nx=true):nx≤e.nx∧e.val.all (fun k=>Nat.blt k e.nx)=true∧∀ p∈e.ch,p.1<e.nx∧(memN e.ks p.1=true∨nx≤p.1)∧∀ r,p.2=some r→r.all (fun k=>Nat.blt k e.nx)=true:=by
 simp only [Ef.wf,Bool.and_eq_true] at h
 refine⟨Nat.le_of_ble_eq_true h.1.1,h.1.2,fun p hp=>?_⟩
 have:=List.all_eq_true.1 h.2 p hp
 simp only [Bool.and_eq_true,Bool.or_eq_true] at this
 refine⟨ju this.1.1,this.1.2.imp_right Nat.le_of_ble_eq_true,fun r hr=>?_⟩
 have h3:=this.2
 rw [hr] at h3
 exact h3
theorem jv {α : Type}:∀ {l:List (Nat×α)} {k:Nat} {v : α},lkS l k=some v→(k,v)∈l
 | [],_,_,h=>by simp [lkS] at h
 |(i,x)::r,k,v,h=>by
  unfold lkS at h
  cases hb:Nat.beq i k with
  |true=>
   rw [hb] at h
   simp only [cond_true,Option.some.injEq] at h
   have:=Nat.eq_of_beq_eq_true hb
   subst this
   subst h
   simp
  |false=>
   rw [hb] at h
   exact List.mem_cons_of_mem _ (jv h)
theorem SatR.stepG {S0:List AObj} {F:Nat→Prop} {C:Conf} {ρ ρ' t:Nat→AV} {S S':List AObj} {e:Ef} {d:Option Tmp} {nx NX:Nat} (h:SatR S0 F C ρ t S) (hN:C.nx≤NX) (w2:e.val.all (fun k=>Nat.blt k NX)=true) (w3:∀ p∈e.ch,p.1<NX∧∀ r,p.2=some r→r.all (fun k=>Nat.blt k NX)=true)
  (a1:∀ d v,lkS C.sl d=some v→v.all (fun k=>Nat.blt k nx ||Nat.ble e.nx k)=true) (a2:∀ k r,hpF C.hp k=some r→(k<nx∨e.nx≤k)∧r.all (fun k=>Nat.blt k nx ||Nat.ble e.nx k)=true) (hp:qd8 ρ S nx (hpF C.hp) e ρ' S') :
  SatR S0 F ⟨match d with|some d=>(d,e.val)::C.sl|none=>C.sl,e.ch++C.hp,NX⟩ ρ' (AS.put ⟨t,S',[]⟩ d (e.val.ev ρ')).t S':=by
 have hav:∀ k,(Nat.blt k nx ||Nat.ble e.nx k)=true→ρ' k = ρ k:=fun k hk=>by
  rcases Bool.or_eq_true_iff.1 hk with hk|hk
  ·exact hp.old k (.inl (ju hk))
  ·exact hp.old k (.inr (Nat.le_of_ble_eq_true hk))
 have hev:∀ d v,lkS C.sl d=some v→v.ev ρ'=v.ev ρ:=fun d v hd=>yl hav v (a1 d v hd)
 have hres:∀ k r,hpF C.hp k=some r→memN e.ks k=true→resF e.ks (hpF C.hp) k=some r:=fun k r h1 h2=>by unfold resF;rw [h2];exact h1
 -- what lies at a name behind the operation
 have key:∀ k r,hpF (e.ch++C.hp) k=some r→chF e.ch (resF e.ks (hpF C.hp)) k=some r∨(memN e.ks k=false∧lkS e.ch k=none∧hpF C.hp k=some r):=fun k r hk=>by
  rw [qxo] at hk
  unfold chF at hk ⊢
  cases hl:lkS e.ch k with
  |some x=>rw [hl] at hk;exact .inl hk
  |none=>
   rw [hl] at hk
   simp only at hk ⊢
   cases hm:memN e.ks k with
   |true=>exact .inl (hres k r hk hm)
   |false=>exact .inr ⟨rfl,trivial,hk⟩
 have hst:∀ k r,memN e.ks k=false→hpF C.hp k=some r→∀ o,qy (ρ k)=some o→S'[o]? = S[o]?∧o<S.length:=fun k r hm hk o ho=>by
  have hlt:=SR.ok_lt (h.hp.ok k r hk) ho
  refine⟨hp.fr o hlt fun k' r' hk'=>?_,hlt⟩
  obtain⟨hm',hk'⟩:=kh hk'
  have hne:k≠k':=fun e=>by subst e;rw [hm] at hm';simp at hm'
  exact h.hp.sep k k' r r' hne hk hk' o ho
 have hρ : ∀ k r,hpF C.hp k=some r→ρ' k = ρ k:=fun k r hk=>hp.old k (a2 k r hk).1
 have sepx:∀ k k' r r',memN e.ks k=false→hpF C.hp k=some r→chF e.ch (resF e.ks (hpF C.hp)) k'=some r'→∀ o,qy (ρ' k)=some o→qy (ρ' k')≠some o:=fun k k' r r' hm hk hk' o ho ho'=>by
  rw [hρ k r hk] at ho
  obtain⟨_,hlt⟩:=hst k r hm hk o ho
  rcases hp.loc k' r' hk' o ho' with h1 | ⟨k2,r2,h2,h3⟩
  ·omega
  ·obtain⟨hm2,hk2⟩:=kh h2
   have hne:k≠k2:=fun e=>by subst e;rw [hm] at hm2;simp at hm2
   exact h.hp.sep k k2 r r2 hne hk hk2 o ho h3
 refine⟨?_,⟨?_,?_⟩,?_,?_,Nat.le_trans h.len hp.len,?_,?_⟩
 ·cases d with
  |none=>exact fun x v hx=>(h.sl x v hx).trans (hev x v hx).symm
  |some d=>
   intro x v hx
   simp only [lkS] at hx
   by_cases hd:x=d
   ·subst hd
    have hb:Nat.beq x x=true:=by simp
    rw [hb] at hx
    simp only [cond_true,Option.some.injEq] at hx
    subst hx
    exact wg _ _ _
   ·rw [zp (fun e=>hd e.symm)] at hx
    simp only [cond_false] at hx
    exact (xx _ _ _ _ hd).trans ((h.sl x v hx).trans (hev x v hx).symm)
 ·intro k r hk
  rcases key k r hk with h1 | ⟨hm,_,h1⟩
  ·exact hp.sat.ok k r h1
  ·rw [hρ k r h1]
   exact SR.ok_of (a2 k r h1).2 hav (h.hp.ok k r h1) fun o ho=>(hst k r hm h1 o ho).1
 ·intro k k' r r' hne hk hk' o ho
  rcases key k r hk with h1 | ⟨hm,_,h1⟩
  ·rcases key k' r' hk' with h2 | ⟨hm2,_,h2⟩
   ·exact hp.sat.sep k k' r r' hne h1 h2 o ho
   ·exact fun ho'=>sepx k' k r' r hm2 h2 h1 o ho' ho
  ·rcases key k' r' hk' with h2 | ⟨hm2,_,h2⟩
   ·exact sepx k k' r r' hm h1 h2 o ho
   ·rw [hρ k r h1] at ho
    rw [hρ k' r' h2]
    exact h.hp.sep k k' r r' hne h1 h2 o ho
 ·intro k r hk o ho
  rcases key k r hk with h1 | ⟨hm,_,h1⟩
  ·rcases hp.loc k r h1 o ho with h2 | ⟨k',r',h2,h3⟩
   ·exact .inl (Nat.le_trans h.len h2)
   ·exact h.own k' r' (kh h2).2 o h3
  ·rw [hρ k r h1] at ho
   exact h.own k r h1 o ho
 ·intro j hj hF
  refine (hp.fr j (Nat.lt_of_lt_of_le hj h.len) fun k r hk ho=>?_).trans (h.low j hj hF)
  rcases h.own k r (kh hk).2 j ho with h1|h1
  ·omega
  ·exact hF h1
 ·intro x v hx
  have hold:lkS C.sl x=some v→v.all (fun k=>Nat.blt k NX)=true:=fun hx=>all_mono (fun k hk=>ya (by have:=ju hk;omega)) v (h.wsl x v hx)
  cases d with
  |none=>exact hold hx
  |some d=>
   simp only [lkS] at hx
   cases hb:Nat.beq d x with
   |true=>
    rw [hb] at hx
    simp only [cond_true,Option.some.injEq] at hx
    subst hx
    exact w2
   |false=>
    rw [hb] at hx
    exact hold hx
 ·intro k r hk
  have hold:hpF C.hp k=some r→k<NX∧r.all (fun k=>Nat.blt k NX)=true:=fun hk=>⟨by have:=(h.whp k r hk).1;omega,SR.all_mono (fun k hk=>ya (by have:=ju hk;omega)) r (h.whp k r hk).2⟩
  rcases key k r hk with h1 | ⟨_,_,h1⟩
  ·unfold chF at h1
   cases hl:lkS e.ch k with
   |some x=>
    rw [hl] at h1
    simp only at h1
    obtain⟨h2,h3⟩:=w3 _ (jv hl)
    exact⟨h2,h3 r h1⟩
   |none=>
    rw [hl] at h1
    exact hold (kh h1).2
  ·exact hold h1
theorem SatR.step {S0:List AObj} {F:Nat→Prop} {C:Conf} {ρ ρ' t:Nat→AV} {S S':List AObj} {e:Ef} {d:Option Tmp} (h:SatR S0 F C ρ t S) (hw:e.wf C.nx=true) (hp:qd8 ρ S C.nx (hpF C.hp) e ρ' S') :
  SatR S0 F (C.app d e) ρ' (AS.put ⟨t,S',[]⟩ d (e.val.ev ρ')).t S':=by
 obtain⟨w1,w2,w3⟩:=qdb hw
 exact h.stepG w1 w2 (fun p hp=>⟨(w3 p hp).1,(w3 p hp).2.2⟩) (fun d v hd=>all_mono (fun k hk=>by rw [hk];rfl) v (h.wsl d v hd)) (fun k r hk=>⟨.inl (h.whp k r hk).1,SR.all_mono (fun k hk=>by rw [hk];rfl) r (h.whp k r hk).2⟩) hp
theorem Frm.nx {B:Bs} {C C':Conf} {ρ : Nat→AV} {S:List AObj} {df:List Nat} (h:Frm B C ρ df S) (hn:B.n0≤C'.nx):Frm B C' ρ df S:=⟨h.dm,h.nd,h.rig,hn,h.dz⟩
theorem Frm.stepG {B:Bs} {C C':Conf} {ρ ρ':Nat→AV} {S S':List AObj} {df:List Nat} {e:Ef} {nx:Nat} {H:Nat→Option SR} (h:Frm B C ρ df S) (hS:SatF S ρ H) (hp:qd8 ρ S nx H e ρ' S') (hn:B.n0≤nx) (hn':B.n0≤C'.nx):Frm B C' ρ' df S':=by
 refine⟨fun x hx=>?_,h.nd,fun k hk=>?_,hn',h.dz⟩
 ·have hm:=h.dm x hx
  refine⟨?_,hm.2⟩
  rw [hp.fr x (lt_of_getElem? hm.1) fun k r hk hl=>?_]
  ·exact hm.1
  ·exact SR.ok_dfr (hS.ok k r (kh hk).2) hl hm.1
 ·rw [hp.old k (.inl (Nat.lt_of_lt_of_le hk hn))]
  exact h.rig k hk
theorem Frm.step {B:Bs} {C:Conf} {ρ ρ':Nat→AV} {S S':List AObj} {df:List Nat} {e:Ef} {d:Option Tmp} (h:Frm B C ρ df S) (hS:SatF S ρ (hpF C.hp)) (hw:e.wf C.nx=true) (hp:qd8 ρ S C.nx (hpF C.hp) e ρ' S'):Frm B (C.app d e) ρ' df S':=
 h.stepG hS hp h.le (Nat.le_trans h.le (qdb hw).1)
theorem SatR.dead {S0:List AObj} {F:Nat→Prop} {C:Conf} {ρ t:Nat→AV} {S:List AObj} {d:Nat} (h:SatR S0 F C ρ t S) (hd:S[d]? = some .dfr) (hl:S0.length≤d):SatR S0 F C ρ t (S.set d .dead):=by
 refine⟨h.sl,⟨fun k r hk=>?_,h.hp.sep⟩,h.own,fun j hj hF=>?_,by simpa using h.len,h.wsl,h.whp⟩
 ·refine SR.ok_of (f:=fun _=>true) (SR.all_mono (fun _ _=>rfl) r (h.whp k r hk).2) (fun _ _=>rfl) (h.hp.ok k r hk) fun o ho=>?_
  have hne:d≠o:=fun e=>SR.ok_dfr (h.hp.ok k r hk) ho (e▸hd)
  rw [List.getElem?_set_ne hne]
 ·rw [List.getElem?_set_ne (by omega)]
  exact h.low j hj hF
theorem SR.ok_ct {ρ : Nat→AV} {S:List AObj} {c:AV} {r:SR} (h:r.ok ρ S c) {o:Nat} (ho:qy c=some o):(∃ T cs v,S[o]? = some (.cells v T cs)∧∃ T' cs',r = .cells T' cs')∨(∃ m sz T,S[o]? = some (.tip m sz T))∨(∃ sz T xs,r = .own sz T xs)∨(∃ P,r = .obj P)∨∃ T ys cs,r = .rows T ys cs:=by
 cases r with
 |cells T cs=>
  obtain⟨o',v,rfl,h,_⟩:=h
  simp only [qy,Option.some.injEq] at ho
  subst ho
  exact .inl ⟨_,_,_,h,_,_,rfl⟩
 |tip sz T xs=>
  rcases h with (⟨_,rfl⟩ | ⟨t,rfl,ht,_⟩) | ⟨_,o',v,f,rfl⟩
  ·simp [qy] at ho
  ·simp only [qy,Option.some.injEq] at ho
   subst ho
   exact .inr (.inl ⟨_,_,_,ht⟩)
  ·simp [qy] at ho
 |own sz T xs=>exact .inr (.inr (.inl ⟨_,_,_,rfl⟩))
 |obj P=>exact .inr (.inr (.inr (.inl ⟨_,rfl⟩)))
 |rows T ys cs=>exact .inr (.inr (.inr (.inr ⟨_,_,_,rfl⟩)))
def qao (hp:List (Nat×Option SR)) (ρ : Nat→AV) (o:Nat):Prop:=∃ k r,hpF hp k=some r∧qy (ρ k)=some o
theorem SatR.rebase {S0:List AObj} {F:Nat→Prop} {C:Conf} {ρ t:Nat→AV} {S S':List AObj} (h:SatR S0 F C ρ t S) (hs:∀ o,qao C.hp ρ o→S'[o]? = S[o]?):SatR S' (qao C.hp ρ) C ρ t S':=
 ⟨h.sl,⟨fun k r hk=>SR.ok_of (f:=fun _=>true) (SR.all_mono (fun _ _=>rfl) r (h.whp k r hk).2) (fun _ _=>rfl) (h.hp.ok k r hk) fun o ho=>hs o ⟨k,r,hk,ho⟩,h.hp.sep⟩,
  fun k r hk o ho=>.inr ⟨k,r,hk,ho⟩,fun _ _ _=>rfl,Nat.le_refl _,h.wsl,h.whp⟩
end Go.Av
