/- Contracts and plain facts that the closing text leans on (part 4). No condition of their own beyond those that each states. -/
import Derived.Test.YtmoklbacdkmkaaaGreatDoorK3
set_option maxRecDepth 100000
set_option linter.unusedVariables false
set_option linter.unusedSimpArgs false
namespace Go.Pl
open Go Go.Proofs
abbrev Fld:=Bytes×Bytes
def qcb (s:Bytes):Prop:=∀ c∈s,wl c
instance (s:Bytes):Decidable (qcb s):=inferInstanceAs (Decidable (∀ c∈s,wl c))
def vk (s:Bytes):Bytes:=if qcb s∨s.head? = some 46 then 46::s else s
def jp (key p:Bytes):Bytes:=key++[58]++if p=[] then [] else [32]++p
def zu (f:Fld):List Bytes:=jp f.1 ((za f.2).headD [])::(za f.2).tail.map fun s=>[32]++vk s
def zk (ls:List Bytes):Bytes:=ls.flatMap fun s=>s++[10]
def zq (xs:List Fld):Bytes:=xs.flatMap fun f=>zk (zu f)
def ve (f:Fld):Int:=if ¬ qak f.1 then 5 else if 1000<f.2.length then 6 else 0
def ka (f:Fld):Prop:=qak f.1∧f.2.length≤1000
instance (f:Fld):Decidable (ka f):=inferInstanceAs (Decidable (_∧_))
theorem qde (f:Fld):ve f=0↔ka f:=by
 unfold ve ka
 by_cases h:qak f.1
 ·by_cases h2:1000<f.2.length
  ·simp [h,h2]
  ·simp [h,h2];omega
 ·simp [h]
def kp (c:UInt8) (l:Bytes):Bytes:=if l.head? = some c then l.drop 1 else l
theorem qvx (c:UInt8) (l:Bytes):Lib.trimPrefix l [c]=kp c l:=by
 unfold Lib.trimPrefix kp
 rw [qnl]
 simp
def qb7 (l:Bytes) (r:List Bytes):Bytes:=kp 32 (j5 l)++r.flatMap fun s=>[10]++kp 46 (s.drop 1)
def qry (ls:List Bytes):Prop:=ls≠[]∧qz (ls.headD [])=4∧∀ s∈ls.tail,qz s=3
instance (ls:List Bytes):Decidable (qry ls):=inferInstanceAs (Decidable (_∧_∧_))
def zp (ls:List Bytes):Fld×Int:=
 if qry ls then
  if 1000<(qb7 (ls.headD []) ls.tail).length then (([],[]),6) else ((ja (ls.headD []),qb7 (ls.headD []) ls.tail),0)
 else (([],[]),2)
theorem qgl (l:Bytes):za l≠[]:=by
 by_cases h:10∈l
 ·rw [ym h];simp
 ·rw [yn h];simp
theorem qm1 (l:Bytes):za l=(za l).headD []::(za l).tail:=by
 cases h:za l with
 |nil=>exact absurd h (qgl l)
 |cons a r=>rfl
theorem qin:∀ (n:Nat) (l:Bytes),l.length≤n→(za l).headD []++(za l).tail.flatMap (fun s=>[10]++s)=l
 |n,l,hn=>by
  by_cases h:10∈l
  ·rw [ym h]
   have hne:l≠[]:=fun e=>by subst e;simp at h
   have hlt:=wy (c:=10) hne
   cases n with
   |zero=>omega
   |succ n=>
    have ih:=qin n (past 10 l) (by omega)
    simp only [List.headD_cons,List.tail_cons]
    rw [qm1 (past 10 l)]
    simp only [List.flatMap_cons]
    rw [List.append_assoc,ih]
    have:=wg h
    simp [← this]
  ·rw [yn h];simp
theorem qef (l:Bytes):∀ x∈za l,10∉x:=fun x hx=>(qh2 l.length l (Nat.le_refl _) x hx).2
theorem qey (l:Bytes):∀ x∈za l,x.length≤l.length:=fun x hx=>(qh2 l.length l (Nat.le_refl _) x hx).1
theorem qra (l:Bytes):(za l).headD []∈za l:=by
 have h:=qgl l
 cases e:za l with
 |nil=>exact absurd e h
 |cons a r=>simp
theorem q4b (s:Bytes):kp 46 (vk s)=s:=by
 unfold vk kp
 by_cases h:qcb s∨s.head? = some 46
 ·rw [if_pos h];simp
 ·rw [if_neg h,if_neg (fun h'=>h (.inr h'))]
theorem qvq (s:Bytes):¬ qcb (vk s):=by
 unfold vk
 by_cases h:qcb s∨s.head? = some 46
 ·rw [if_pos h]
  intro h'
  have:=h' 46 (by simp)
  revert this;decide
 ·rw [if_neg h]
  exact fun h'=>h (.inl h')
theorem qud {s:Bytes} (h:10∉s):10∉vk s:=by
 unfold vk
 split
 ·simp [h]
 ·exact h
theorem qo8 (s:Bytes):(vk s).length≤s.length+1:=by
 unfold vk
 split <;> simp
theorem qwz (s:Bytes) (h:10∉s):qz ([32]++vk s)=3:=by
 have hn:=qud h
 have hb:=qvq s
 unfold qz
 have h10:10∉([32]++vk s):=by simp [hn]
 rw [if_neg h10,if_neg (fun h'=>hb fun c hc=>h' c (by simp [hc])),if_neg (by simp),if_pos ⟨32,by simp,.inl rfl⟩]
theorem qla {k r:Bytes} (h:58∉k):ja (k++[58]++r)=k:=by
 unfold ja
 induction k with
 |nil=>simp
 |cons a k ih=>
  simp only [List.mem_cons,not_or] at h
  have:(58:UInt8)≠a:=h.1
  simp only [List.cons_append,List.takeWhile_cons]
  rw [if_pos (by simpa using fun e=>this e.symm)]
  rw [ih h.2]
theorem q19 {k r:Bytes} (h:58∉k):j5 (k++[58]++r)=r:=by
 unfold j5
 rw [qla h]
 rw [List.drop_append_of_le_length (by simp)]
 simp
theorem qkq {k:Bytes} (h:qak k):∃ c,k.head? = some c∧¬ wl c∧c≠35:=by
 obtain⟨h1,h2,h3,h4,h5,h6⟩:=h
 cases k with
 |nil=>exact absurd rfl h1
 |cons a r=>exact⟨a,rfl,fun hb=>h3 ⟨a,rfl,hb⟩,fun e=>h4 (by simp [e])⟩
theorem qwy {k p:Bytes} (h:qak k) (hp:10∉p):qz (jp k p)=4:=by
 obtain⟨c,hc,hb,h35⟩:=qkq h
 have hk10:10∉k:=h.2.2.2.2.2
 have hk58:58∉k:=h.2.2.2.2.1
 have hh:(jp k p).head? = some c:=by
  unfold jp
  cases k with
  |nil=>simp at hc
  |cons a r=>simpa using hc
 have e:jp k p=k++[58]++(if p=[] then [] else [32]++p):=rfl
 have h10:10∉jp k p:=by
  rw [e]
  split <;> simp [hk10,hp]
 have hmem:c∈jp k p:=List.mem_of_head? hh
 unfold qz
 rw [if_neg h10,if_neg (fun h'=>hb (h' c hmem)),if_neg (by rw [hh];simpa using h35),if_neg (fun ⟨d,hd,hd'⟩=>by rw [hh] at hd;cases hd;exact hb hd')]
 rw [if_pos]
 refine⟨by rw [e];simp,?_⟩
 rw [e,qla hk58]
 exact h
theorem q9p (k p:Bytes) (h:58∉k):kp 32 (j5 (jp k p))=p:=by
 unfold jp
 rw [q19 h]
 by_cases hp:p=[]
 ·rw [if_pos hp];simp [kp,hp]
 ·rw [if_neg hp];simp [kp]
theorem qnm {f:Fld} (h:ka f):zp (zu f)=(f,0):=by
 obtain⟨hk,hv⟩:=h
 have hk58:58∉f.1:=hk.2.2.2.2.1
 have h10:=qef f.2
 have hval:qb7 (jp f.1 ((za f.2).headD [])) ((za f.2).tail.map fun s=>[32]++vk s)=f.2:=by
  unfold qb7
  rw [q9p _ _ hk58]
  have:((za f.2).tail.map fun s=>[32]++vk s).flatMap (fun s=>[10]++kp 46 (s.drop 1))=(za f.2).tail.flatMap (fun s=>[10]++s):=by
   rw [List.flatMap_map]
   congr 1
   funext s
   simp [q4b]
  rw [this,qin _ _ (Nat.le_refl _)]
 unfold zp zu
 rw [if_pos]
 ·simp only [List.headD_cons,List.tail_cons]
  refine (if_neg (by rw [hval];omega)).trans ?_
  have:ja (jp f.1 ((za f.2).headD []))=f.1:=qla hk58
  rw [this,hval]
 ·refine⟨by simp,?_,?_⟩
  ·simp only [List.headD_cons]
   exact qwy hk (h10 _ (qra _))
  ·intro s hs
   simp only [List.tail_cons,List.mem_map] at hs
   obtain⟨x,hx,rfl⟩:=hs
   exact qwz x (h10 x (List.mem_of_mem_tail hx))
end Go.Pl
namespace Go.Av
open Go Go.RowKit
section
variable {E : Env} {rd : Option Nat} {N : Nat} {ops : Array Oper} {K : AS → Prop} {s : AS} {rest : List Oper} {d : Option Tmp} {T : TypeId} {p : String} {af : Array Edge}
theorem x9 {t e:TypeId} {len sz:Nat} {agg:Bool} {parts:Array (Nat×Operand)} {zs cs:List AV} {st loc:List AObj} (hst:s.st=st++loc) (hu:E.P.underlying t=some (.slice e)) (ht:tyOf E.P e=some (sz,agg)) (hz:qgs E.P e len=some zs)
  (hf:qc3 (fun i=>some (i * sz,sz)) zs (wd N s parts)=some cs) (hsz:Nat.ble (len * sz) 16777216=true)
  (h:AOps E rd N ops rest K (AS.put ⟨s.t,st++(loc++[.cells 0 e cs]),s.df⟩ d (.os (st.length+loc.length) 0 0 len len))):AOps E rd N ops (⟨d,.buildSlice t len parts,T,p,af,none⟩::rest) K s:=by
 refine q9 rfl (q7 nofun fun B0 w0 G a w _ hI=>?_)
 obtain⟨c',hrun,h2⟩:=qlm (d:=d) (T:=T) (p:=p) (af:=af) hI hu ht hz hf hsz
 have hA:=hI.agree.newCells e c' cs h2.1 h2.2
 have hn:=hI.agree.n
 rw [hst] at hA hn
 simp only [List.append_assoc,List.length_append] at hA hn
 exact⟨_,_,_,_,_,hrun,G.le_new _ _ _ _,hA,.os _ _ _ _ _ _ (by simp [Gh.new,hn]) (Nat.zero_le _) (fun _=>by simp [Gh.new,hn]),h⟩
theorem zh.ownTip {B0:Nat} {w0:World} {G:Gh} {st:List AObj} {w:World} (h:zh B0 w0 G st w) {o sz len cap:Nat} {T:TypeId} {cs:List AV} {xs:List AV} (ho:st[o]? = some (.cells 0 T cs)) (hc:cs.length=cap * sz) (hlen:xs.length=len) (h0:0<len) (hle:len≤cap) (hcm:cap≤maxLen) (hw:∀ x∈xs,x.cells.length=sz) (hfl:flat xs=cs.take (len * sz)) :
  ∃ G',G.le G'∧zh B0 w0 G' (st.set o (.tip len sz T)) w∧Rel G' (.sl sz xs (some o)) (.slice (some ⟨(G.ob o).blk,0,none⟩) len cap):=by
 subst hlen
 have hon:=lt_of_getElem? ho
 obtain⟨g0,g1,g2,g3,c,g4,g5,g6⟩:=h.ob o _ ho
 have hle1:G.le (G.publish (G.ob o).blk (c.toList.take (xs.length * sz))):=G.le_publish _ _ [] [] (.inl g3)
 -- dead, published
 have key:∀ (k:Nat) (x:AObj),(st.set o .dead)[k]? = some x→x = .dead∨(k≠o∧st[k]? = some x):=fun k x hx=>by
  rcases getElem?_set' _ _ _ _ _ hx with⟨_,e⟩|e
  ·exact .inl e
  ·exact .inr e
 have hA1:zh B0 w0 (G.publish (G.ob o).blk (c.toList.take (xs.length * sz))) (st.set o .dead) w:=by
  refine⟨h.below,h.hB,by simp [h.n,Gh.publish],fun b vs hb=>?_,fun k x hx=>?_,fun k k' x x' hne hx hx' hl hl'=>?_⟩
  ·simp only [Gh.publish] at hb
   by_cases e:b=(G.ob o).blk
   ·rw [if_pos e] at hb
    cases hb
    subst e
    refine⟨c,T,(0,0),g4,fun i y hy=>?_⟩
    rw [List.getElem?_take] at hy
    split at hy
    ·simpa using hy
    ·simp at hy
   ·rw [if_neg e] at hb
    exact h.pub b vs hb
  ·rcases key k x hx with rfl | ⟨hk,hx⟩
   ·trivial
   ·refine (h.ob k x hx).mono hle1 rfl (fun hl=>?_) (fun _=>rfl)
    have:=h.sep k o x _ hk hx ho hl trivial
    simp [Gh.publish,this]
  ·rcases key k x hx with rfl | ⟨hk,hx⟩
   ·exact hl.elim
   ·rcases key k' x' hx' with rfl | ⟨hk',hx'⟩
    ·exact hl'.elim
    ·exact h.sep k k' x x' hne hx hx' hl hl'
 have hvl:(c.toList.take (xs.length * sz)).length=xs.length * sz:=by
  have:xs.length * sz≤cap * sz:=Nat.mul_le_mul_right _ hle
  simp
  omega
 obtain⟨hle2,hA2⟩:=hA1.setTip (t:=o) (n:=0) (n':=xs.length) (k:=(G.ob o).blk) (cap:=c.size) (sz:=sz) (T:=T) (c:=c) (vs:=c.toList.take (xs.length * sz)) (by simp [hon]) g0 g1 h0 g4 (by simp [Gh.publish]) hvl rfl g2 (fun k x hx hl=>by
  rcases key k x hx with rfl | ⟨hk,hx⟩
  ·exact hl.elim
  ·exact h.sep k o x _ hk hx ho hl trivial)
 rw [List.set_set] at hA2
 refine⟨_,hle1.trans hle2,hA2,?_⟩
 have hgn:o<G.n:=by rw [h.n];exact hon
 refine .sl sz xs (some o) (G.ob o).blk 0 cap (c.toList.take (xs.length * sz)) (by simp [Gh.setOb,Gh.publish]) hw (by rw [hfl,hvl];simp;omega) (fun i x y h1 h2=>?_) (fun t ht=>?_) (by omega)
 ·rw [hfl] at h1
  rw [Nat.zero_add] at h2
  rw [List.getElem?_take] at h1 h2
  split at h1
  ·rename_i hi
   rw [if_pos hi] at h2
   exact ((g6 i x y h1 (by simpa using h2)).mono hle1).mono hle2
  ·simp at h1
 ·simp only [Option.some.injEq] at ht
  subst ht
  refine⟨by simpa [Gh.setOb,Gh.publish] using hgn,by omega,by simp [Gh.setOb],fun _=>⟨by simp [Gh.setOb],rfl,by simp [Gh.setOb,← g5,hc],hcm,by omega⟩⟩
theorem Inv.osTip {B0:Nat} {w0:World} {G:Gh} {a:Act} {w:World} (h:Inv B0 w0 N G s a w) {i o sz len cap:Nat} {T':TypeId} {cs xs:List AV} (hi:s.t i = .os o 0 0 len cap) (ho:s.st[o]? = some (.cells 0 T' cs)) (hc:cs.length=cap * sz) (hlen:xs.length=len) (h0:0<len) (hle:len≤cap) (hcm:cap≤maxLen) (hw:∀ x∈xs,x.cells.length=sz) (hfl:flat xs=cs.take (len * sz)) :
  ∃ G',G.le G'∧Inv B0 w0 N G' ⟨Av.put s.t i (.sl sz xs (some o)),s.st.set o (.tip len sz T'),s.df⟩ a w:=by
 obtain⟨G',hG,hA,hR⟩:=h.agree.ownTip ho hc hlen h0 hle hcm hw hfl
 obtain⟨_,g1,_⟩:=h.agree.ob o _ ho
 refine⟨G',hG,hA,h.defers_mono hG,h.size,fun j y hy=>?_⟩
 have hj:=h.tmps j y hy
 by_cases e:j=i
 ·subst e
  simp only [w6]
  rw [hi] at hj
  cases hj with
  |os _ _ _ _ b _ hn hv hb=>
   have hb:=hb g1
   subst hb
   exact hR
 ·simp only
  rw [y8 _ _ _ _ e]
  exact hj.mono hG
theorem qn0 {c:Code} {Q:Exit→AS→Prop} (i:Nat) {o sz len cap:Nat} {T':TypeId} {cs xs:List AV} (hi:s.t i = .os o 0 0 len cap) (ho:s.st[o]? = some (.cells 0 T' cs)) (hc:cs.length=cap * sz) (hlen:xs.length=len) (h0:0<len) (hle:len≤cap) (hcm:cap≤maxLen) (hw:∀ x∈xs,x.cells.length=sz) (hfl:flat xs=cs.take (len * sz))
  (h:AWp E rd N c Q ⟨Av.put s.t i (.sl sz xs (some o)),s.st.set o (.tip len sz T'),s.df⟩):AWp E rd N c Q s:=
 ⟨fun B0 w0 G a w hL hI=>let ⟨G1,h1,h2⟩:=hI.osTip hi ho hc hlen h0 hle hcm hw hfl;wpIn_mono (h.run B0 w0 _ a w hL h2) fun _ _ _ ⟨G',s',hG,k1,k2⟩=>⟨G',s',h1.trans hG,k1,k2⟩⟩
theorem q53 {l:List Oper} (i:Nat) {o sz len cap:Nat} {T':TypeId} {cs xs:List AV} (hi:s.t i = .os o 0 0 len cap) (ho:s.st[o]? = some (.cells 0 T' cs)) (hc:cs.length=cap * sz) (hlen:xs.length=len) (h0:0<len) (hle:len≤cap) (hcm:cap≤maxLen) (hw:∀ x∈xs,x.cells.length=sz) (hfl:flat xs=cs.take (len * sz))
  (h:AOps E rd N ops l K ⟨Av.put s.t i (.sl sz xs (some o)),s.st.set o (.tip len sz T'),s.df⟩):AOps E rd N ops l K s:=
 ⟨fun B0 w0 G a w hL hI Q hQ=>let ⟨G1,h1,h2⟩:=hI.osTip hi ho hc hlen h0 hle hcm hw hfl;h.run B0 w0 _ a w hL h2 Q fun G' s' a' w' hG k1 k2=>hQ G' s' a' w' (h1.trans hG) k1 k2⟩
theorem Inv.osPub {B0:Nat} {w0:World} {G:Gh} {a:Act} {w:World} (h:Inv B0 w0 N G s a w) {i o ver off sz len cap:Nat} {T':TypeId} {cs xs:List AV} (hi:s.t i = .os o ver off len cap) (ho:s.st[o]? = some (.cells ver T' cs)) (hlen:xs.length=len) (hle:len≤cap) (hw:∀ x∈xs,x.cells.length=sz) (hin:off+len * sz≤cs.length) (hfl:flat xs=(cs.drop off).take (len * sz)) :
  ∃ G',G.le G'∧Inv B0 w0 N G' ⟨Av.put s.t i (.sl sz xs none),s.st.set o .dead,s.df⟩ a w:=by
 obtain⟨vs,hle1,hA,hv,hp,hl,hr⟩:=h.agree.pubOb ho
 refine⟨_,hle1,hA,h.defers_mono hle1,h.size,fun j y hy=>?_⟩
 have hj:=h.tmps j y hy
 by_cases e:j=i
 ·subst e
  simp only [w6]
  rw [hi] at hj
  cases hj with
  |os _ _ _ _ b _ hn hv' hb=>
   have hb:=hb hv
   subst hb
   rw [← hlen]
   refine .sl sz xs none _ off cap vs hp hw (by rw [hfl];simp;omega) (fun k x y hx hy=>?_) (fun t ht=>by simp at ht) (by omega)
   rw [hfl,List.getElem?_take] at hx
   split at hx
   ·rw [List.getElem?_drop] at hx
    exact hr _ x y hx hy
   ·simp at hx
 ·simp only
  rw [y8 _ _ _ _ e]
  exact hj.mono hle1
theorem q8c {l:List Oper} (i:Nat) {x r:AV} (hi:s.t i=x) (hw:∀ G v,Rel G x v→Rel G r v) (h:AOps E rd N ops l K ⟨Av.put s.t i r,s.st,s.df⟩):AOps E rd N ops l K s:=
 ⟨fun B0 w0 G a w hL hI Q hQ=>h.run B0 w0 G a w hL ⟨hI.agree,hI.defers,hI.size,fun j y hy=>by
  have hj:=hI.tmps j y hy
  by_cases e:j=i
  ·subst e;simp only [w6];rw [hi] at hj;exact hw G y hj
  ·simp only;rw [y8 _ _ _ _ e];exact hj⟩ Q hQ⟩
theorem qt9 {P:Program} {t e:TypeId} {sz:Nat} {agg:Bool} (hu:P.underlying t=some (.slice e)) (ht:tyOf P e=some (sz,agg)) (a:Option Addr) (len cap:Nat) (lo hi:Option Value) (i j:Nat) (w:World)
  (hlo:match lo with|none=>i=0|some v=>∃ k,v = .int k (i:Int)) (hhi:match hi with|none=>j=len|some v=>(∃ k,v = .int k (j:Int))∧j≤cap) (h1:i≤j) :
  (Instr.slice t (.slice a len cap) lo hi none).run P w = .ok (.slice (if cap=i then a else a.map (·.add (i * sz))) (j - i) (cap - i)) w:=by
 have hs:=(vb ht w).1
 cases lo with
 |none=>
  simp only at hlo
  subst hlo
  cases hi with
  |none=>
   simp only at hhi
   subst hhi
   simp [Instr.slice,run_underlying hu,Instr.sliceBounds,hs]
  |some v=>
   obtain⟨⟨k,rfl⟩,h2⟩:=hhi
   simp [Instr.slice,run_underlying hu,Instr.sliceBounds,Instr.sliceBound,asIntOf,hs,h2]
 |some u=>
  obtain⟨k',rfl⟩:=hlo
  cases hi with
  |none=>
   simp only at hhi
   subst hhi
   simp [Instr.slice,run_underlying hu,Instr.sliceBounds,Instr.sliceBound,asIntOf,hs,h1]
  |some v=>
   obtain⟨⟨k,rfl⟩,h2⟩:=hhi
   simp [Instr.slice,run_underlying hu,Instr.sliceBounds,Instr.sliceBound,asIntOf,hs,h1,h2]
theorem qt5 {G:Gh} {sz:Nat} {xs:List AV} {tip:Option Nat} {a:Option Addr} {len cap:Nat} (h:Rel G (.sl sz xs tip) (.slice a len cap)) {i j:Nat} (h1:i≤j) (h2:j≤xs.length) :
  len=xs.length∧len≤cap∧Rel G (.sl sz ((xs.take j).drop i) none) (.slice (if cap=i then a else a.map (·.add (i * sz))) (j - i) (cap - i)):=by
 cases h with
 |sl0=>
  simp at h2
  subst h2
  have:i=0:=by omega
  subst this
  refine⟨rfl,Nat.zero_le _,?_⟩
  simp
  exact .sl0 sz none _ _ (by simp)
 |sl _ _ _ b off cap pub hp hw hlen hr ht hcap=>
  refine⟨rfl,hcap,?_⟩
  have hl:((xs.take j).drop i).length=j - i:=by simp;omega
  by_cases hji:j=i
  ·subst hji
   have e:(xs.take j).drop j=[]:=List.length_eq_zero_iff.1 (by rw [hl];omega)
   rw [e,Nat.sub_self]
   exact .sl0 sz none _ _ (by simp)
  ·have hne:cap≠i:=by omega
   rw [if_neg hne]
   simp only [Option.map_some]
   have hadd:Addr.add ⟨b,off,none⟩ (i * sz)=⟨b,off+i * sz,none⟩:=Addr.add_lit ..
   rw [hadd,← hl]
   have hw':∀ x∈(xs.take j).drop i,x.cells.length=sz:=fun x hx=>hw x (List.mem_of_mem_take (List.mem_of_mem_drop hx))
   have hfx:(flat xs).length=xs.length * sz:=zt hw
   have hsplit:flat xs=flat (xs.take i)++flat ((xs.take j).drop i)++flat (xs.drop j):=by
    have e:xs.take i++(xs.take j).drop i=xs.take j:=by
     conv=>rhs;rw [← List.take_append_drop i (xs.take j),List.take_take,Nat.min_eq_left h1]
    rw [← x4,← x4,e,List.take_append_drop]
   have hti:(flat (xs.take i)).length=i * sz:=by
    rw [zt (fun x hx=>hw x (List.mem_of_mem_take hx)),List.length_take,Nat.min_eq_left (by omega)]
   have hmid:(flat ((xs.take j).drop i)).length=(j - i) * sz:=by rw [zt hw',hl]
   refine .sl sz _ none b (off+i * sz) (cap - i) pub hp hw' ?_ (fun k x y hx hy=>?_) (fun t ht=>by simp at ht) (by rw [hl];omega)
   ·have:=congrArg List.length hsplit
    simp only [List.length_append] at this
    omega
   ·refine hr (i * sz+k) x y ?_ (by rw [← hy];congr 1;omega)
    have hk:=lt_of_getElem? hx
    rw [hsplit,List.append_assoc,List.getElem?_append_right (by omega),hti,Nat.add_sub_cancel_left,List.getElem?_append_left hk]
    exact hx
theorem q2v {x:Operand} {t e:TypeId} {lo hi:Option Operand} {sz:Nat} {agg:Bool} {xs ys:List AV} {tip:Option Nat} {i j:Nat} (hx:qm N s x = .sl sz xs tip) (hu:E.P.underlying t=some (.slice e)) (ht:tyOf E.P e=some (sz,agg))
  (hlo:match lo with|none=>i=0|some y=>∃ k,qm N s y = .v (.int k (i:Int))) (hhi:match hi with|none=>j=xs.length|some y=>∃ k,qm N s y = .v (.int k (j:Int))) (h1:i≤j) (h2:j≤xs.length) (hy:(xs.take j).drop i=ys)
  (h:AOps E rd N ops rest K (s.put d (.sl sz ys none))):AOps E rd N ops (⟨d,.slice t x lo hi none,T,p,af,none⟩::rest) K s:=by
 subst hy
 refine q9 rfl (q7 nofun fun B0 w0 G a w _ hI=>?_)
 have he:=hI.eval_of hx
 generalize hv:a.eval x=v at he
 have hsl:∃ b len cap,v = .slice b len cap:=by cases he <;> exact⟨_,_,_,rfl⟩
 obtain⟨b,len,cap,rfl⟩:=hsl
 obtain⟨hl,hlc,hr⟩:=qt5 he h1 h2
 refine⟨_,w,G,_,s.st,?_,.refl G,hI.agree,hr,h⟩
 have hrun:=qt9 hu ht b len cap (lo.map a.eval) (hi.map a.eval) i j w (by
  cases lo with
  |none=>exact hlo
  |some y=>obtain⟨k,hy⟩:=hlo;exact⟨k,hI.evalv hy⟩) (by
  cases hi with
  |none=>simp only at hhi;simp only [Option.map_none];omega
  |some y=>obtain⟨k,hy⟩:=hhi;exact⟨⟨k,hI.evalv hy⟩,by omega⟩) h1
 generalize a.eval = ρ at hv hrun
 simp only [execOp,hv]
 simp [Instr.sliceAt,run_underlying hu,hrun]
theorem qgv {x y:Operand} {t e:TypeId} {sz:Nat} {agg:Bool} {xs ys:List AV} {tip:Option Nat} {k:IntKind} {i:Nat} (hx:qm N s x = .sl sz xs tip) (hy:qm N s y = .v (.int k (i:Int))) (hu:E.P.underlying t=some (.slice e)) (ht:tyOf E.P e=some (sz,agg)) (h1:i≤xs.length) (hz:xs.drop i=ys)
  (h:AOps E rd N ops rest K (s.put d (.sl sz ys none))):AOps E rd N ops (⟨d,.slice t x (some y) none none,T,p,af,none⟩::rest) K s:=
 q2v (i:=i) (j:=xs.length) hx hu ht ⟨k,hy⟩ rfl h1 (Nat.le_refl _) (by rw [List.take_length];exact hz) h
end
end Go.Av
namespace Go.Av
open Go Go.RowKit
inductive Vec (sz:Nat) (T:TypeId) (o:Nat) (xs:List AV):AV→AObj→Prop
 |nil (h:xs=[]):Vec sz T o xs zm (.tip 0 sz T)
 |os (ver cap:Nat) (pad:List AV) (hl:(flat xs++pad).length=cap * sz) (hw:∀ x∈xs,x.cells.length=sz) (hle:xs.length≤cap) (hcm:cap≤maxLen):Vec sz T o xs (.os o ver 0 xs.length cap) (.cells ver T (flat xs++pad))
section
variable {B0 : Nat} {w0 : World} {G : Gh} {st : List AObj} {w : World}
theorem zh.setCells (h:zh B0 w0 G st w) {t k cap v':Nat} {T:TypeId} {cs:List AV} (ht:st[t]? = some .dead) (hraw:(G.ob t).raw=false) (hver:(G.ob t).ver<v')
  {c:Array Value} (hc:w.heap[k]? = some (.cells c T (0,0))) (hp:G.pub k=none) (hl:cs.length=c.size) (hr:∀ (i:Nat) (x:AV) (y:Value),cs[i]? = some x→c[i]? = some y→Rel G x y) (hk:B0≤k) (hs:∀ o x,st[o]? = some x→x.live→(G.ob o).blk≠k) :
  G.le (G.setOb t ⟨v',k,cap,false⟩)∧zh B0 w0 (G.setOb t ⟨v',k,cap,false⟩) (st.set t (.cells v' T cs)) w:=by
 have hle:=G.le_setOb t ⟨v',k,cap,false⟩ hver hraw
 have hob:∀ o,o≠t→(G.setOb t ⟨v',k,cap,false⟩).ob o=G.ob o:=fun o ho=>by simp [Gh.setOb,ho]
 have hobt:(G.setOb t ⟨v',k,cap,false⟩).ob t=⟨v',k,cap,false⟩:=by simp [Gh.setOb]
 refine⟨hle,h.below,h.hB,by simp [h.n,Gh.setOb],h.pub,fun o x hx=>?_,fun o o' x x' hne hx hx' hl1 hl2=>?_⟩
 ·rcases getElem?_set' _ _ _ _ _ hx with⟨rfl,rfl⟩ | ⟨ho,hx⟩
  ·exact⟨by rw [hobt],by rw [hobt],by rw [hobt];exact hk,by rw [hobt];exact hp,c,by rw [hobt];exact hc,hl,fun i x y h1 h2=>(hr i x y h1 h2).mono hle⟩
  ·exact (h.ob o x hx).mono hle (hob o ho) (fun _=>rfl) (fun _=>rfl)
 ·rcases getElem?_set' _ _ _ _ _ hx with⟨e1,e2⟩ | ⟨ho,hx⟩
  ·rcases getElem?_set' _ _ _ _ _ hx' with⟨e3,_⟩ | ⟨ho',hx'⟩
   ·exact absurd (e1.trans e3.symm) hne
   ·rw [e1,hobt,hob o' ho']
    exact (hs o' x' hx' hl2).symm
  ·rcases getElem?_set' _ _ _ _ _ hx' with⟨e3,_⟩ | ⟨ho',hx'⟩
   ·rw [e3,hobt,hob o ho]
    exact hs o x hx hl1
   ·rw [hob o ho,hob o' ho']
    exact h.sep o o' x x' hne hx hx' hl1 hl2
theorem qa2 {G:Gh} {cs ds:List AV} {vs us:List Value} (hl:cs.length=vs.length) (h1:∀ (i:Nat) (x:AV) (y:Value),cs[i]? = some x→vs[i]? = some y→Rel G x y) (h2:∀ (i:Nat) (x:AV) (y:Value),ds[i]? = some x→us[i]? = some y→Rel G x y) :
  ∀ (i:Nat) (x:AV) (y:Value),(cs++ds)[i]? = some x→(vs++us)[i]? = some y→Rel G x y:=fun i x y hx hy=>by
 by_cases hi:i<cs.length
 ·rw [List.getElem?_append_left hi] at hx
  rw [List.getElem?_append_left (by omega)] at hy
  exact h1 i x y hx hy
 ·rw [List.getElem?_append_right (by omega)] at hx
  rw [List.getElem?_append_right (by omega),← hl] at hy
  exact h2 _ x y hx hy
theorem qnf {P:Program} (hA:zh B0 w0 G st w) {tt u ty T:TypeId} {du:TypeDesc} (htt:P.underlying tt=some (.slice T)) (hu:P.underlying u=some du) (hd:qi6 du)
  {sz bytes:Nat} (hT:yc P T sz bytes) {o:Nat} {xs ys:List AV} {a:AV} {ob:AObj} {v x:Value} (hV:Vec sz T o xs a ob) (ho:st[o]? = some ob) (hv:Rel G a v)
  {news:List Value} (hx:Src P w x ys.length sz news) (hys:∀ y∈ys,y.cells.length=sz) (hrel:∀ (i:Nat) (a:AV) (b:Value),(flat ys)[i]? = some a→news[i]? = some b→Rel G a b)
  (h63:xs.length+ys.length≤maxLen) (hbytes:(xs.length+ys.length) * bytes≤140737488355328) :
  ∃ v' w' G' a' ob',(Builtin.append_ #[tt,u] ty #[v,x]).run P w = .ok v' w'∧G.le G'∧zh B0 w0 G' (st.set o ob') w'∧Rel G' a' v'∧Vec sz T o (xs++ys) a' ob':=by
 obtain⟨i,z,hi,hz,rfl,rfl,hzs⟩:=hT.ex
 have hon:=lt_of_getElem? ho
 have htn:o<G.n:=by rw [hA.n];exact hon
 have hraw:(G.ob o).raw=false:=by
  have:=hA.ob o _ ho
  cases hV with
  |nil h=>exact this.1
  |os=>exact this.1
 have hk:=hA.kill o
 have hkt:(st.set o .dead)[o]? = some .dead:=yp ho
 have hother:∀ k x,(st.set o .dead)[k]? = some x→x.live→k≠o∧st[k]? = some x:=fun k x hx hl=>by
  rcases getElem?_set' _ _ _ _ _ hx with⟨_,e⟩ | ⟨h1,h2⟩
  ·subst e;exact hl.elim
  ·exact⟨h1,h2⟩
 have hself:st.set o ob=st:=by
  apply List.ext_getElem?
  intro k
  by_cases e:o=k
  ·subst e;rw [List.getElem?_set_self hon];exact ho.symm
  ·rw [List.getElem?_set_ne e]
 have hfy:(flat ys).length=ys.length * i.size:=zt hys
 have grow:∀ (base:Option Addr) (c:Nat) (olds:List Value),(Builtin.firstCells i.size xs.length (.slice base xs.length c)).run P w.drew = .ok olds.toArray w.drew→c<xs.length+ys.length→olds.length=xs.length * i.size→(∀ x∈xs,x.cells.length=i.size) →
   (∀ (j:Nat) (a:AV) (b:Value),(flat xs)[j]? = some a→olds[j]? = some b→Rel G a b)→Builtin.nextslicecap (xs.length+ys.length) c * i.bytes≤281474976710656 →
   ∃ v' w' G' a' ob',(Builtin.append_ #[tt,u] ty #[.slice base xs.length c,x]).run P w = .ok v' w'∧G.le G'∧zh B0 w0 G' (st.set o ob') w'∧Rel G' a' v'∧Vec i.size T o (xs++ys) a' ob':=by
  intro base c olds hold hc hol hwx hrx hfit
  have hfx:(flat xs).length=xs.length * i.size:=zt hwx
  have hrun:=qgo (ty:=ty) htt hu hd hi hz hx base xs.length c olds hold hc (by simp only [maxLen] at h63;omega) hfit
  have hge:=grownCap_ge w (xs.length+ys.length) c T
  have hle:=grownCap_le_maxLen w (xs.length+ys.length) c T h63
  generalize grownCap w (xs.length+ys.length) c T=cap at hrun hge hle
  generalize hzc:(Builtin.zeroCells z.cells (cap - (xs.length+ys.length)))=zc at hrun
  have hzl:zc.size=(cap - (xs.length+ys.length)) * i.size:=by rw [← hzc,size_zeroCells,hzs]
  have hdrew:Below w.heap.size w w.drew:=⟨rfl,rfl,rfl,Nat.le_refl _,fun _ _=>rfl⟩
  have hcl:(flat (xs++ys)++zc.toList.map AV.v).length=(olds.toArray++news.toArray++zc).size:=by
   rw [x4]
   simp [hfx,hfy,hol,hx.count]
   omega
  have hA1:=(hk.fresh hdrew).fresh (w':=w.drew.alloc (.cells (olds.toArray++news.toArray++zc) T)) ⟨rfl,rfl,rfl,by simp [World.alloc],fun b hb=>qad _ _ _ hb⟩
  have hnp:G.pub w.heap.size=none:=by
   cases hp:G.pub w.heap.size with
   |none=>rfl
   |some vs=>exact absurd (hA.pub_lt hp) (Nat.lt_irrefl _)
  obtain⟨hle2,hA2⟩:=hA1.setCells (t:=o) (k:=w.heap.size) (cap:=0) (v':=(G.ob o).ver+1) (T:=T) (cs:=flat (xs++ys)++zc.toList.map AV.v) hkt hraw (Nat.lt_succ_self _) (qac w.drew _) hnp hcl (by
   have h1:=qa2 (G:=G) (cs:=flat xs) (ds:=flat ys) (vs:=olds) (us:=news) (by omega) hrx hrel
   have h2:=qa2 (G:=G) (cs:=flat xs++flat ys) (ds:=zc.toList.map AV.v) (vs:=olds++news) (us:=zc.toList) (by simp [hfx,hfy,hol,hx.count]) h1 (fun j a b h1 h2=>by
    rw [List.getElem?_map,h2] at h1
    simp at h1
    subst h1
    exact .v _)
   rw [x4]
   intro j a b g1 g2
   exact h2 j a b g1 (by rw [← g2];simp [← Array.getElem?_toList])) hA.hB (fun k x hx hl=>by
   obtain⟨_,hx'⟩:=hother k x hx hl
   exact Nat.ne_of_lt ((hA.ob k x hx').lt hl))
  rw [List.set_set] at hA2
  refine⟨_,_,_,_,_,hrun,hle2,hA2,.os o ((G.ob o).ver+1) 0 (xs.length+ys.length) w.heap.size cap (by simpa [Gh.setOb] using htn) (by simp [Gh.setOb]) (fun _=>by simp [Gh.setOb]),?_⟩
  have:=Vec.os (o:=o) (T:=T) (xs:=xs++ys) ((G.ob o).ver+1) cap (zc.toList.map AV.v) (sz:=i.size) (by
   have h1:zc.toList.length=(cap - (xs.length+ys.length)) * i.size:=by rw [← hzl];simp
   rw [List.length_append,x4,List.length_append,hfx,hfy,List.length_map,h1,← Nat.add_mul,← Nat.add_mul]
   congr 1
   omega) (fun y hy=>by
   rcases List.mem_append.1 hy with h|h
   ·exact hwx y h
   ·exact hys y h) (by simpa using hge) hle
  rw [List.length_append] at this
  exact this
 cases hV with
 |nil h=>
  subst h
  cases hv with
  |v _=>
  by_cases hm0:ys.length=0
  ·have hy0:ys=[]:=List.eq_nil_of_length_eq_zero hm0
   subst hy0
   have hn0:news=[]:=List.eq_nil_of_length_eq_zero (by simpa using hx.count)
   subst hn0
   exact⟨_,_,G,_,_,qcr htt hu hd hi hx none 0 0 (Nat.le_refl _),.refl G,by rw [hself];exact hA,.v _,.nil (by simp)⟩
  ·exact grow none 0 [] (by simp [run_firstCells_none]) (by simp;omega) (by simp) (by simp) (by simp [flat]) (by
    simp only [List.length_nil,Nat.zero_add] at hbytes ⊢
    rw [nextslicecap_zero (by omega)]
    omega)
 |os ver cap pad hl hw hle hcm=>
  obtain⟨g0,g1,g2,g3,c,g4,g5,g6⟩:=hA.ob o _ ho
  have hfx:(flat xs).length=xs.length * i.size:=zt hw
  cases hv with
  |os _ _ _ _ b _ hn hv' hb=>
  have hb:=hb g1
  subst hb
  have hcs:c.size=cap * i.size:=by rw [← g5,hl]
  by_cases hm0:ys.length=0
  ·have hy0:ys=[]:=List.eq_nil_of_length_eq_zero hm0
   subst hy0
   have hn0:news=[]:=List.eq_nil_of_length_eq_zero (by simpa using hx.count)
   subst hn0
   exact⟨_,_,G,_,_,qcr htt hu hd hi hx _ xs.length cap hle,.refl G,by rw [hself];exact hA,.os _ _ _ _ _ _ hn hv' (fun _=>rfl),by rw [List.append_nil];exact .os ver cap pad hl hw hle hcm⟩
  ·by_cases hroom:xs.length+ys.length≤cap
   ·have hmul:(xs.length+ys.length) * i.size≤cap * i.size:=Nat.mul_le_mul_right _ hroom
    rw [Nat.add_mul] at hmul
    have hfit:xs.length * i.size+news.length≤c.size:=by rw [hx.count,hcs];omega
    have hrun:=qjw (ty:=ty) htt hu hd hi hx (G.ob o).blk xs.length cap c g4 hroom hfit
    have hpl:pad.length=cap * i.size - xs.length * i.size:=by
     have:=hl
     rw [List.length_append,hfx] at this
     omega
    have hA2:=hA.setRow (cs':=flat (xs++ys)++pad.drop (ys.length * i.size)) (c':=(c.toList.take (xs.length * i.size)++news++c.toList.drop (xs.length * i.size+news.length)).toArray) ho (by
     rw [x4]
     simp [hfx,hfy,hx.count,hpl,hcs,Nat.min_eq_left hle]
     omega) (by
     have e1:∀ (j:Nat) (a:AV) (b:Value),(flat xs)[j]? = some a→(c.toList.take (xs.length * i.size))[j]? = some b→Rel G a b:=fun j a b h1 h2=>by
      have hj:=lt_of_getElem? h1
      rw [List.getElem?_take_of_lt (by omega)] at h2
      exact g6 j a b (by rw [List.getElem?_append_left hj];exact h1) (by simpa using h2)
     have e2:=qa2 (G:=G) (cs:=flat xs) (ds:=flat ys) (vs:=c.toList.take (xs.length * i.size)) (us:=news) (by simp;omega) e1 hrel
     have e3:=qa2 (G:=G) (cs:=flat xs++flat ys) (ds:=pad.drop (ys.length * i.size)) (vs:=c.toList.take (xs.length * i.size)++news) (us:=c.toList.drop (xs.length * i.size+news.length)) (by
      simp [hfx,hfy,hx.count]
      omega) e2 (fun j a b h1 h2=>by
      rw [List.getElem?_drop] at h1 h2
      refine g6 (xs.length * i.size+news.length+j) a b ?_ (by simpa using h2)
      rw [List.getElem?_append_right (by rw [hfx];omega),hfx,← h1,hx.count]
      congr 1
      omega)
     rw [x4]
     intro j a b h1 h2
     exact e3 j a b h1 (by simpa using h2))
    refine⟨_,_,G,_,_,hrun,.refl G,hA2,.os o ver 0 (xs.length+ys.length) _ cap hn hv' (fun _=>rfl),?_⟩
    have:=Vec.os (o:=o) (T:=T) (xs:=xs++ys) ver cap (pad.drop (ys.length * i.size)) (sz:=i.size) (by
     rw [List.length_append,x4,List.length_append,hfx,hfy,List.length_drop,hpl]
     omega) (fun y hy=>by
     rcases List.mem_append.1 hy with h|h
     ·exact hw y h
     ·exact hys y h) (by simpa using hroom) hcm
    rw [List.length_append] at this
    exact this
   ·refine grow (some ⟨(G.ob o).blk,0,none⟩) cap (c.toList.take (xs.length * i.size)) ?_ (by omega) (by
     have:xs.length * i.size≤cap * i.size:=Nat.mul_le_mul_right _ hle
     simp
     omega) hw (fun j a b h1 h2=>?_) (growslice_fits (by omega) hbytes)
    ·refine run_firstCells_some w.drew i.size xs.length ⟨(G.ob o).blk,0,none⟩ xs.length cap _ (by
      have:xs.length * i.size≤cap * i.size:=Nat.mul_le_mul_right _ hle
      simp
      omega) fun j y hy=>?_
     have e1':w.drew.heap[(G.ob o).blk]? = some (.cells c T (0,0)):=g4
     rw [Addr.add_lit]
     rw [List.getElem?_take] at hy
     split at hy
     ·simp only [Array.getElem?_toList] at hy
      simp [World.cell?,e1',hy]
     ·simp at hy
    ·have hj:=lt_of_getElem? h1
     rw [List.getElem?_take_of_lt (by omega)] at h2
     exact g6 j a b (by rw [List.getElem?_append_left hj];exact h1) (by simpa using h2)
end
section
variable {E : Env} {rd : Option Nat} {N : Nat} {ops : Array Oper} {K : AS → Prop} {s : AS} {rest : List Oper} {d : Option Tmp} {T : TypeId} {p : String} {af : Array Edge}
theorem qy3 {x y:Operand} {t u T':TypeId} {sz bytes o:Nat} {xs ys:List AV} {tip:Option Nat} {a:AV} {ob:AObj} (hx:qm N s x=a) (hy:qm N s y = .sl sz ys tip) (hV:Vec sz T' o xs a ob) (ho:s.st[o]? = some ob)
  (ht:E.P.underlying t=some (.slice T')) (hu:E.P.underlying u=some (.slice T')) (hT:yc E.P T' sz bytes) (hone:j9 (flat ys)=true) (h63:xs.length+ys.length≤maxLen) (hb:(xs.length+ys.length) * bytes≤140737488355328)
  (h:∀ a' ob',Vec sz T' o (xs++ys) a' ob'→AOps E rd N ops rest K (AS.put ⟨s.t,s.st.set o ob',s.df⟩ d a')):AOps E rd N ops (⟨d,.call ⟨.builtin .append,#[x,y],#[t,u]⟩,T,p,af,none⟩::rest) K s:=by
 refine q9 rfl (q7 nofun fun B0 w0 G a0 w _ hI=>?_)
 obtain⟨news,h1,h2,h3⟩:=y0 (P:=E.P) hI.agree (hI.eval_of hy) (by simpa [j9] using hone)
 obtain⟨v',w',G',a',ob',e1,e2,e3,e4,e5⟩:=qnf (ty:=T) hI.agree ht hu (.inr ⟨_,rfl⟩) hT hV ho (hI.eval_of hx) h1 h2 h3 h63 hb
 refine⟨v',w',G',_,_,?_,e2,e3,e4,h a' ob' e5⟩
 generalize a0.eval = ρ at e1
 simp [execOp,resolve,invoke,builtin,e1]
theorem q2p {sz:Nat} {T:TypeId} {o:Nat} {xs:List AV} {a:AV} {ob:AObj} (h:Vec sz T o xs a ob):(xs=[]∧a=zm∧ob = .tip 0 sz T)∨∃ ver cap pad,a = .os o ver 0 xs.length cap∧ob = .cells ver T (flat xs++pad)∧(flat xs++pad).length=cap * sz∧(∀ x∈xs,x.cells.length=sz)∧xs.length≤cap∧cap≤maxLen:=by
 cases h with
 |nil h=>exact .inl ⟨h,rfl,rfl⟩
 |os ver cap pad h1 h2 h3 h4=>exact .inr ⟨ver,cap,pad,rfl,rfl,h1,h2,h3,h4⟩
theorem qq6 {sz:Nat}:∀ {xs:List AV} {i:Nat} {x:AV},(∀ x∈xs,x.cells.length=sz)→x.cells.length=sz→i<xs.length→∀ pad,zx (flat xs++pad) (0+i * sz) x.cells=flat (xs.set i x)++pad
 | [],_,_,_,_,h,_=>by simp at h
 |y::xs,0,x,hw,hx,_,pad=>by
  have hy:=hw y (by simp)
  simp only [List.set_cons_zero,qbv,zx,Nat.zero_mul,Nat.zero_add,List.take_zero,List.nil_append,hx]
  rw [List.append_assoc,List.drop_append_of_le_length (by omega),← hy,List.drop_length]
  simp
 |y::xs,i+1,x,hw,hx,h,pad=>by
  have hy:=hw y (by simp)
  have ih:=qq6 (xs:=xs) (i:=i) (x:=x) (fun z hz=>hw z (by simp [hz])) hx (by simpa using h) pad
  simp only [List.set_cons_succ,qbv,zx,Nat.zero_add] at ih ⊢
  have e:(i+1) * sz=y.cells.length+i * sz:=by rw [Nat.add_mul,hy];omega
  simp only [List.append_assoc] at ih ⊢
  rw [e,List.take_length_add_append,show y.cells.length+i * sz+x.cells.length=y.cells.length+(i * sz+x.cells.length) by omega,List.drop_length_add_append]
  simp only [List.append_assoc]
  rw [ih]
theorem zg4 {sz:Nat} {T:TypeId} {o ver cap:Nat} {xs pad:List AV} (hl:(flat xs++pad).length=cap * sz) (hw:∀ x∈xs,x.cells.length=sz) (hle:xs.length≤cap) (hcm:cap≤maxLen) {i:Nat} {x:AV} (hx:x.cells.length=sz) (hi:i<xs.length) :
  Vec sz T o (xs.set i x) (.os o ver 0 xs.length cap) (.cells ver T (zx (flat xs++pad) (0+i * sz) x.cells)):=by
 rw [qq6 hw hx hi]
 have hw':∀ y∈xs.set i x,y.cells.length=sz:=fun y hy=>by
  rcases List.mem_or_eq_of_mem_set hy with h|rfl
  ·exact hw y h
  ·exact hx
 have:=Vec.os (o:=o) (T:=T) (xs:=xs.set i x) ver cap pad (sz:=sz) (by
  rw [List.length_append] at hl ⊢
  rw [zt hw',List.length_set,← zt hw]
  exact hl) hw' (by simpa using hle) hcm
 rw [List.length_set] at this
 exact this
theorem q5q {sz:Nat} {xs pad:List AV} (hw:∀ x∈xs,x.cells.length=sz) {i:Nat} {x:AV} (hi:xs[i]? = some x):((flat xs++pad).drop (i * sz)).take sz=x.cells:=by
 have hlt:=lt_of_getElem? hi
 have hx:=hw x (List.mem_of_getElem? hi)
 apply List.ext_getElem?
 intro j
 rw [List.getElem?_take]
 by_cases hj:j<sz
 ·rw [if_pos hj,List.getElem?_drop,← qml hw hi j hj]
  have hle:(i+1) * sz≤xs.length * sz:=Nat.mul_le_mul_right _ hlt
  rw [Nat.succ_mul] at hle
  rw [List.getElem?_append_left (by rw [zt hw];omega)]
 ·rw [if_neg hj,List.getElem?_eq_none (by omega)]
end
structure Chg (N:Nat) (s s':AS):Prop where
 run:∀ (B0:Nat) (w0:World) (G:Gh) (a:Act) (w:World),Inv B0 w0 N G s a w→∃ G',G.le G'∧Inv B0 w0 N G' s' a w
theorem Chg.trans {N:Nat} {s s' s'':AS} (h:Chg N s s') (k:Chg N s' s''):Chg N s s'':=⟨fun B0 w0 G a w hI=>let ⟨G1,h1,h2⟩:=h.run B0 w0 G a w hI;let ⟨G2,k1,k2⟩:=k.run B0 w0 G1 a w h2;⟨G2,h1.trans k1,k2⟩⟩
section
variable {E : Env} {rd : Option Nat} {N : Nat} {ops : Array Oper} {K : AS → Prop} {s s' : AS}
theorem zb6 {fn:Func} {R:AV→List AObj→Prop} (hc:Chg fn.ntmps s s') (h:ARet E fn R s'):ARet E fn R s:=
 ⟨fun B0 w0 G a w hL hI R2 hR2=>let ⟨G1,h1,h2⟩:=hc.run B0 w0 G a w hI;h.run B0 w0 G1 a w hL h2 R2 fun v G' r st' w' hG k1 k2 k3=>hR2 v G' r st' w' (h1.trans hG) k1 k2 k3⟩
theorem zcg (i:Nat) {x r:AV} (hi:s.t i=x) (hw:∀ G v,Rel G x v→Rel G r v):Chg N s ⟨Av.put s.t i r,s.st,s.df⟩:=
 ⟨fun B0 w0 G a w hI=>⟨G,.refl G,hI.agree,hI.defers,hI.size,fun j y hy=>by
  have hj:=hI.tmps j y hy
  by_cases e:j=i
  ·subst e;simp only [w6];rw [hi] at hj;exact hw G y hj
  ·simp only;rw [y8 _ _ _ _ e];exact hj⟩⟩
theorem zcf (o:Nat):Chg N s ⟨s.t,s.st.set o .dead,s.df⟩:=⟨fun B0 w0 G a w hI=>⟨G,.refl G,hI.agree.kill o,hI.defers,hI.size,hI.tmps⟩⟩
theorem q6e (i:Nat) {sz o:Nat} {T':TypeId} {xs:List AV} {v:AV} {ob:AObj} (hi:s.t i=v) (hV:Vec sz T' o xs v ob) (ho:s.st[o]? = some ob):Chg N s ⟨Av.put s.t i (.sl sz xs none),s.st.set o .dead,s.df⟩:=by
 cases hV with
 |nil hx=>
  subst hx
  exact (zcg i hi (fun _ _ h=>qb5 h)).trans (zcf o)
 |os ver cap pad hl hw hle hcm=>
  have hm:xs.length * sz≤cap * sz:=Nat.mul_le_mul_right _ hle
  refine⟨fun _ _ _ _ _ hI=>hI.osPub hi ho rfl hle hw (by omega) ?_⟩
  rw [List.drop_zero,List.take_append_of_le_length (by rw [zt hw];exact Nat.le_refl _),List.take_of_length_le (by rw [zt hw];exact Nat.le_refl _)]
theorem q27 (i:Nat) {sz k:Nat} {T':TypeId} {xs:List AV} {v:AV} {ob:AObj} {st loc ext new:List AObj} (hs:s.st=((st++loc)++ext)++new) (hi:s.t i=v) (hV:Vec sz T' (st.length+k) xs v ob) (ho:loc[k]? = some ob):Chg N s ⟨Av.put s.t i (.sl sz xs none),((st++loc.set k .dead)++ext)++new,s.df⟩:=by
 have:=q6e (N:=N) i hi hV (by rw [hs];exact qa4 ho)
 rw [hs,qek _ (lt_of_getElem? ho)] at this
 exact this
theorem qxt {rest:List Oper} {d:Option Tmp} {T:TypeId} {p:String} {af:Array Edge} {x y:Operand} {t u T':TypeId} {sz bytes k:Nat} {xs ys:List AV} {tip:Option Nat} {a:AV} {ob:AObj} {st loc ext new:List AObj} (hs:s.st=((st++loc)++ext)++new) (hx:qm N s x=a) (hy:qm N s y = .sl sz ys tip) (hV:Vec sz T' (st.length+k) xs a ob) (ho:loc[k]? = some ob)
  (ht:E.P.underlying t=some (.slice T')) (hu:E.P.underlying u=some (.slice T')) (hT:yc E.P T' sz bytes) (hone:j9 (flat ys)=true) (h63:xs.length+ys.length≤maxLen) (hb:(xs.length+ys.length) * bytes≤140737488355328)
  (h:∀ a' ob',Vec sz T' (st.length+k) (xs++ys) a' ob'→AOps E rd N ops rest K (AS.put ⟨s.t,((st++loc.set k ob')++ext)++new,s.df⟩ d a')):AOps E rd N ops (⟨d,.call ⟨.builtin .append,#[x,y],#[t,u]⟩,T,p,af,none⟩::rest) K s:=
 qy3 hx hy hV (by rw [hs];exact qa4 ho) ht hu hT hone h63 hb fun a' ob' hV'=>by rw [hs,qek _ (lt_of_getElem? ho)];exact h a' ob' hV'
end
end Go.Av
namespace Go.Proofs.YtmoklbacdkmkaaaGreatDoor
open Go Go.Av Go.RowKit Go.Proofs Go.Pl
theorem za8 (text:List UInt8) (o kb ver n:Nat) (I:Nat→List UInt8→List AObj→Prop) (D:List AObj→Prop) (st l0:List AObj) (ht:text.length<4294967281) (h0:I 0 text l0)
  (hI:∀ k rest l,I k rest l→l.length=n∧(st++l)[kb]? = some (.cells ver 9 [Sv text]))
  (hY:∀ k rest l own ext,I k rest l→rest≠[]→rest.length≤text.length→qau E o [qea k text rest] (st++(l++own::ext)) fun b st2=>∃ l' ext',st2=st++(l'++own::ext')∧(b=true→I (k+1) (past 10 rest) l')∧(b=false→D l'∧l'.length=n)) :
  qp E 163 [.yd o,.bx kb ver 0] (st++l0) fun r st'=>∃ l own ext',st'=st++(l++own::ext')∧((∃ k,I k [] l)∨D l):=by
 refine qq Tryz.func163 rfl (Nat.le_of_ble_eq_true rfl) ?_
 obtain⟨hn,hb⟩:=hI 0 text l0 h0
 repeat' (first|apply qn|apply qw|apply qf|apply qh|apply qg|(apply jm;exact rfl;exact rfl)|(apply zz;(iterate 11 exact rfl))|(apply vu;(iterate 3 exact rfl))|(apply qc8;exact rfl;exact rfl;exact hb;exact rfl;exact rfl))
 refine ju (fun (x:Nat×List UInt8) s=>match x with|(k,rest)=>∃ l at' ta eb ext,I k rest l∧k+rest.length≤text.length∧at'=(text.length:Int) - rest.length∧StA [(0,.yd o),(1,.bx kb ver 0),(3,.bx ((st++l0).length+0) 0 0),(4,Sv rest)] ((st++l)++(.cells 0 181 [Iv k,Iv at',Sv ta,Bv eb]::ext)) [] s) (fun x=>x.2.length) (0,text)
  ⟨l0,0,[],false,[],h0,by simp,by simp,?_⟩ ?_
 ·exact jb ⟨rfl,rfl,rfl,rfl,trivial⟩
 rintro⟨k,rest⟩ _ ⟨l,_,ta,eb,ext,hi,hle,rfl,t,rfl⟩
 obtain⟨hn',hb'⟩:=hI k rest l hi
 have hq:(st++l).length=(st++l0).length:=by simp [hn,hn']
 repeat' (first|apply qn|apply qw|apply qf|apply qh|apply qj|apply qg|(apply zf;exact rfl;exact rfl)|(apply jj;(iterate 3 exact rfl))|(apply qd;exact rfl;apply cd_d <;> intro h)|(apply zj;(iterate 3 exact rfl))|apply qv|apply z4|(apply qk;exact Tryz.call96;exact qje _ _ _ (by omega))|(apply qbl;exact rfl;exact hq;(iterate 10 exact rfl))|(apply qcj;exact rfl;exact hq;(iterate 4 exact rfl)))
 ·refine qgt rfl (q2z (List.append_assoc st l (_::ext)).symm ((hY k rest l _ ext hi h (by omega)).mono ?_))
  rintro b _ ⟨l',ext',rfl,h1,h2⟩
  cases b
  ·skip
   rw [← List.append_assoc]
   repeat' (first|apply qh|(apply je;exact rfl)|(apply qd;exact rfl;apply qkd;exact cRa)|apply qt)
   refine qo rfl (qbp rfl) ⟨l',_,ext',List.append_assoc _ _ _,.inr (h2 rfl).1⟩
  ·have hi3:=h1 rfl
   obtain⟨hn3,hb3⟩:=hI _ _ _ hi3
   have hp:=km 10 rest
   have hr0:0<rest.length:=List.length_pos_iff.2 h
   have hq3:(st++l').length=(st++l0).length:=by simp [hn,hn3]
   rw [← List.append_assoc]
   repeat' (first|apply qn|apply qf|apply qh|apply qj|(apply je;exact rfl)|(apply qd;exact rfl;apply qkc;exact cRa)|(apply zn;(iterate 3 exact rfl))|(apply zi;exact rfl;exact rfl;exact q8 (by omega) (by omega))|(apply xh;exact rfl;exact rfl;exact q8 (by omega) (by omega))|(apply zj;(iterate 3 exact rfl))|apply qv|(apply qc8;exact rfl;exact rfl;exact hb3;exact rfl;exact rfl)|(apply qbl;exact rfl;exact hq3;(iterate 10 exact rfl))|(apply qcj;exact rfl;exact hq3;(iterate 4 exact rfl)))
   exact⟨(k+1,past 10 rest),⟨l',_,_,_,_,hi3,by omega,rfl,jb ⟨rfl,rfl,rfl,rfl,trivial⟩⟩,by simp only;omega⟩
 ·have hr:rest=[]:=Classical.not_not.1 h
  subst hr
  exact qo rfl (qbp rfl) ⟨l,_,ext,List.append_assoc _ _ _,.inl ⟨k,hi⟩⟩
theorem quz {N:Nat} {Q:Exit→AS→Prop} {s:AS} {f:Operand} {p:Tmp} {asg body:Code} {st loc:List AObj} {kb ver:Nat} (text:List UInt8) (hst:s.st=st++loc) (hx:qm N s f = .fn (.func 163) [] [.bx (st.length+kb) ver 0]) (ht:text.length<4294967281)
  (I:Nat→List UInt8→List AObj→Prop) (D:Code→List AObj→Prop) (h0:I 0 text loc)
  (hI:∀ k rest l,I k rest l→l.length=loc.length∧l[kb]? = some (.cells ver 9 [Sv text])) (hD:∀ c l,D c l→l.length=loc.length)
  (hb:∀ F own rd k rest l ext m,ql4 F N s.t #[p] asg body→I k rest l→rest≠[]→rest.length≤text.length→((st++(l++[.dfr,F .ready none,own]))++ext).length=m→((st++(l++[.dfr,F .busy none,own]))++ext).length=m →
   AWp E (some rd) N asg (only fun s1=>∃ new,s1.st=((st++(l++[.dfr,F .ready none,own]))++ext)++new∧s1.df=[]∧AWp E (some rd) N body (zax F st own (I (k+1) (past 10 rest)) D) ⟨s1.t,((st++(l++[.dfr,F .busy none,own]))++ext)++new,[]⟩) ⟨put s.t p (qea k text rest),((st++(l++[.dfr,F .ready none,own]))++ext)++[],[]⟩)
  (hn:∀ k l ext,I k [] l→Q .normal ⟨s.t,((st++(l++[.dfr,.dead]))++ext)++[],(st.length+loc.length)::s.df⟩)
  (hd:∀ c l ext,D c l→AWp E none N c Q ⟨s.t,((st++(l++[.dfr,.dead]))++ext)++[],(st.length+loc.length)::s.df⟩):AWp E none N (.rangeFunc f #[p] asg body) Q s:=by
 refine qmd hst hx Tryz.call163 fun F hF=>?_
 refine qp.mono (za8 text (st.length+(loc.length+1)) (st.length+kb) ver (loc.length+2) (fun k rest l=>∃ l1,l=l1++[.dfr,F .ready none]∧I k rest l1) (fun l=>∃ l1 c,l=l1++[.dfr,F .done (some c)]∧D c l1) st (loc++[.dfr,F .ready none]) ht ⟨loc,rfl,h0⟩ ?_ ?_) ?_
 ·rintro k rest _ ⟨l,rfl,hi⟩
  obtain⟨h1,h2⟩:=hI k rest l hi
  exact⟨by simp [h1],jo (by rw [List.getElem?_append_left (lt_of_getElem? h2)];exact h2)⟩
 ·rintro k rest _ own ext ⟨l,rfl,hi⟩ hne hle
  obtain⟨h1,h2⟩:=hI k rest l hi
  have hy:=zb8 (E:=E) (st:=st) (l:=l) (ext:=ext) (own:=own) (n:=loc.length) (xs:=[qea k text rest]) (I:=I (k+1) (past 10 rest)) (D:=D) hF h1 rfl (fun l hl=>(hI _ _ l hl).1) hD (fun rd=>hb F own rd k rest l ext _ hF hi hne hle rfl (by simp))
  have e:(st++(l++[.dfr,F .ready none,own]))++ext=st++((l++[.dfr,F .ready none])++own::ext):=by simp
  rw [e] at hy
  refine hy.mono ?_
  rintro b st2 ⟨l',ext',g1,g2⟩
  cases b with
  |true=>
   obtain⟨rfl,g⟩:=g1 rfl
   exact⟨l'++[.dfr,F .ready none],ext',by simp,fun _=>⟨l',rfl,g⟩,nofun⟩
  |false=>
   obtain⟨c,rfl,g⟩:=g2 rfl
   exact⟨l'++[.dfr,F .done (some c)],ext',by simp,nofun,fun _=>⟨⟨l',c,rfl,g⟩,by simp [hD c l' g]⟩⟩
 ·rintro r _ ⟨_,own,ext,rfl,⟨k,l,rfl,hi⟩ | ⟨l,c,rfl,hdl⟩⟩
  ·have h1:=(hI _ _ _ hi).1
   have e:st++((l++[.dfr,F .ready none])++own::ext)=(st++(l++[.dfr,F .ready none,own]))++ext:=by simp
   rw [e]
   refine⟨.ready,none,nofun,qdu h1,?_⟩
   rw [qf2 h1]
   have:=hn k l (own::ext) hi
   simpa using this
  ·have h1:=hD _ _ hdl
   have e:st++((l++[.dfr,F .done (some c)])++own::ext)=(st++(l++[.dfr,F .done (some c),own]))++ext:=by simp
   rw [e]
   refine⟨.done,some c,nofun,qdu h1,?_⟩
   rw [qf2 h1]
   have:=hd c l (own::ext) hdl
   simpa using this
abbrev Ss (xs:List Bytes):AV:=.sl 1 (xs.map fun x=>Sv x) none
theorem qj1 (l m:List UInt8) (st:List AObj):qp E 98 [Sv l,Sv m] st fun r st'=>r=Sv (Lib.trimPrefix l m)∧st'=st:=
 qaa (vals:= #[.string ⟨l.toArray⟩,.string ⟨m.toArray⟩]) rfl fun _ _ w _ _=>(Tryz.strings_TrimPrefix ⟨l.toArray⟩ ⟨m.toArray⟩ w).mono fun _ _ ⟨h1,h2⟩=>⟨h1,qeq h2⟩
theorem q5p (l:List UInt8) (c:UInt8) (st:List AObj):qp E 98 [Sv l,Sv [c]] st fun r st'=>r=Sv (kp c l)∧st'=st:=by
 rw [← qvx]
 exact qj1 _ _ _
theorem q7x {B0:Nat} {w0:World} {G:Gh} {st:List AObj} {w:World} (hA:zh B0 w0 G st w) {xs:List Bytes} {tip:Option Nat} {v:Value} (h:Rel G (.sl 1 (xs.map fun x=>Sv x) tip) v) :
  (xs=[]∧∃ a c,v = .slice a 0 c)∨∃ b off cap,v = .slice (some ⟨b,off,none⟩) xs.length cap∧b<w.heap.size∧xs.length≤cap∧∀ (j:Nat) (x:Bytes),xs[j]? = some x→w.cell? ⟨b,off+j,none⟩=some (.string ⟨x.toArray⟩):=by
 generalize hq:xs.map (fun x=>Sv x)=q at h
 cases h with
 |sl0 sz tip base cap ht=>exact .inl ⟨by simpa using hq,base,cap,rfl⟩
 |sl _ _ _ b off cap pub hp hw hlen hr ht hcap=>
  subst hq
  obtain⟨c,T,fz,hc,hcc⟩:=hA.pub b pub hp
  refine .inr ⟨b,off,cap,by simp,hA.pub_lt hp,by simpa using hcap,fun j x hx=>?_⟩
  have hfl:flat (xs.map fun x=>Sv x)=xs.map fun x=>Sv x:=by
   clear hx hr hlen hw ht hcap
   induction xs with
   |nil=>rfl
   |cons a xs ih=>rw [List.map_cons,qbv,ih];rfl
  have hj:=lt_of_getElem? hx
  rw [hfl] at hlen
  simp only [List.length_map] at hlen
  have hy:pub[off+j]? = some (pub[off+j]'(by omega)):=List.getElem?_eq_getElem (by omega)
  have hrj:=hr j (Sv x) _ (by rw [hfl,List.getElem?_map,hx];rfl) hy
  generalize hz:pub[off+j]'(by omega)=z at hrj hy
  generalize hSx:Sv x=sx at hrj
  cases hrj <;> simp_all
  subst_vars
  simp [World.cell?,hc,hcc _ _ hy]
theorem q9t (xs:List Bytes) (tip:Option Nat) (sep:Bytes) (st:List AObj) (hN:xs.length≤140737488355328) (hl:(Lib.join xs sep).length≤140737488355328):qp E 156 [.sl 1 (xs.map fun x=>Sv x) tip,Sv sep] st fun r st'=>r=Sv (Lib.join xs sep)∧st'=st:=by
 refine⟨fun B0 w0 G vs w hL hA hR=>?_⟩
 have hs:vs.size=2:=by have:=hR.1;simpa using this.symm
 have e0:vs[0]? = some vs[0]:=by simp [hs]
 have e1:vs[1]? = some vs[1]:=by simp [hs]
 have h0:=hR.2 0 _ _ rfl e0
 have h1:=hR.2 1 _ _ rfl e1
 have hv1:vs[1] = .string ⟨sep.toArray⟩:=by generalize vs[1]=y at h1;cases h1;rfl
 have hvs:vs = #[vs[0],.string ⟨sep.toArray⟩]:=by
  apply Array.ext (by simp [hs])
  intro i g1 g2
  match i with
  | 0=>rfl
  | 1=>exact hv1
  |i+2=>simp [hs] at g1;omega
 rw [hvs]
 rcases q7x hA h0 with⟨hx,a,c,hv⟩ | ⟨b,off,cap,hv,hb,hcap,hcell⟩
 ·rw [hv]
  subst hx
  refine (Tryz.strings_Join_none a c ⟨sep.toArray⟩ w).mono ?_
  rintro e w' ⟨rfl,rfl⟩
  exact⟨_,G,Sv [],st,rfl,.refl G,hA,.v _,rfl,rfl⟩
 ·rw [hv]
  have hm:(xs.map fun l:Bytes=>(⟨l.toArray⟩:ByteArray)).map (·.data.toList)=xs:=by simp [List.map_map,Function.comp_def]
  have hc:=Tryz.strings_Join b off cap (xs.map fun l=>⟨l.toArray⟩) ⟨sep.toArray⟩ w (fun j x hx=>by
   rw [List.getElem?_map] at hx
   cases hq:xs[j]? with
   |none=>rw [hq] at hx;simp at hx
   |some y=>rw [hq] at hx;simp at hx;subst hx;exact hcell j y hq) hb (by simpa using hN) (by simpa using hcap) (by rw [hm];simpa using hl)
  rw [hm] at hc
  simp only [List.length_map] at hc
  refine hc.mono ?_
  rintro e w' ⟨rfl,hbw⟩
  exact⟨_,G,Sv _,st,rfl,.refl G,hA.fresh hbw,.v _,rfl,rfl⟩
def Weak (x r:AV):Prop:=∀ (G:Gh) (v:Value),Rel G x v→Rel G r v
theorem qb8 (x:AV):Weak x x:=fun _ _ h=>h
theorem qi0 (sz:Nat) (xs:List AV) (tip:Option Nat):Weak (.sl sz xs tip) (.sl sz xs none):=fun _ _ h=>qkz h
theorem qgq (sz:Nat):Weak zm (.sl sz [] none):=fun _ _ h=>qb5 h
theorem qfk {x y x' y':AV} (h1:Weak x x') (h2:Weak y y'):Weak (.tu [x,y]) (.tu [x',y']):=fun G v h=>by
 cases h with
 |tu _ vs hl hr=>
  refine .tu _ vs hl fun i a b ha hb=>?_
  match i with
  | 0=>simp at ha;subst ha;exact h1 G b (hr 0 x b rfl hb)
  | 1=>simp at ha;subst ha;exact h2 G b (hr 1 y b rfl hb)
  |i+2=>simp at ha
theorem zg5 {xs ys:List AV} (hl:xs.length=ys.length) (h:∀ (i:Nat) (x y:AV),xs[i]? = some x→ys[i]? = some y→Weak x y):Weak (.ag xs) (.ag ys):=fun G v hr=>by
 cases hr with
 |ag _ vs hl' hr=>
  refine .ag _ vs (by omega) fun i a b ha hb=>?_
  have hi:=lt_of_getElem? ha
  exact h i _ a (List.getElem?_eq_getElem (by omega)) ha G b (hr i _ b (List.getElem?_eq_getElem (by omega)) hb)
theorem q56 {fn:Func} {s:AS} {t u:Tmp} {x y x' y':AV} (hr:fn.results = #[.tmp t,.tmp u]) (hx:qm fn.ntmps s (.tmp t)=x) (hy:qm fn.ntmps s (.tmp u)=y) (h1:Weak x x') (h2:Weak y y'):ARes E fn s (.tu [x',y']):=
 wz (ki hr) (by rw [hx,hy];exact qfk h1 h2)
theorem q55 {fn:Func} {s:AS} {t:Tmp} {x x':AV} (hr:fn.results = #[.tmp t]) (hx:qm fn.ntmps s (.tmp t)=x) (h1:Weak x x'):ARes E fn s x':=
 wz (q5 hr) (by rw [hx];exact h1)
def errN (n:Int):AV:=if n=0 then .v .nilIface else .ifc 76 (Iv n)
theorem qkj (n:Int):Pure (errN n):=by
 unfold errN
 split
 ·exact qs _
 ·exact qc7 (qs _)
theorem qlr {n:Int} (h:n≠0):errN n = .ifc 76 (Iv n):=if_neg h
theorem qqc (f:FldV) (st:List AObj) (hl:f.1.length<4294967281):qp E 226 [fldA f] st fun r st'=>r=errN (ve f)∧st'=st:=by
 refine qx (qkj _) (qq Tryz.func226 rfl (Nat.le_of_ble_eq_true rfl) ?_)
 repeat' (first|apply qn|apply qw|apply qf|apply qh|apply qg|(apply qr;(iterate 3 exact rfl))|(apply je;exact rfl)|(apply qd;exact rfl;apply cd_n <;> intro h)|(apply qd;exact rfl;apply cd_d <;> intro h)|(apply zn;(iterate 3 exact rfl))|(apply kg;exact rfl;exact rfl)|(apply qa6;(iterate 4 exact rfl))|(apply zj;(iterate 3 exact rfl))|(apply jl;(iterate 5 exact rfl))|apply qv|apply qt|(apply qk;exact Tryz.call215;exact zeq _ _ hl))
 all_goals refine qo rfl (q5 rfl) ⟨(?_:_=_),_,rfl⟩
 ·have e:ve f=5:=if_pos (by simp_all)
  rw [e];rfl
 ·have e:ve f=6:=(if_neg (by simp_all)).trans (if_pos (by omega))
  rw [e];rfl
 ·have e:ve f=0:=(if_neg (by simp_all)).trans (if_neg (by omega))
  rw [e];rfl
theorem qji (f:FldV) (st:List AObj) (hl:f.1.length<4294967281) (h:ve f=0):qp E 226 [fldA f] st fun r st'=>r = .v .nilIface∧st'=st:=by
 have:=qqc f st hl
 rw [h] at this
 exact this
theorem qjj (f:FldV) (st:List AObj) (hl:f.1.length<4294967281) (h:ve f≠0):qp E 226 [fldA f] st fun r st'=>r = .ifc 76 (Iv (ve f))∧st'=st:=by
 have:=qqc f st hl
 rw [qlr h] at this
 exact this
theorem zbf (s:List UInt8) (st:List AObj) (hl:s.length<4294967281):qp E 230 [Sv s] st fun r st'=>r=Sv (vk s)∧st'=st:=by
 refine qx (qs _) (qq Tryz.func230 rfl (Nat.le_of_ble_eq_true rfl) ?_)
 have hb:Lib.trimS s [32,9]=[]↔qcb s:=by rw [qpa];simp [wl,qcb]
 repeat' (first|apply qn|apply qf|apply qh|apply qj|apply qg|(apply jj;(iterate 3 exact rfl))|(apply qy;(iterate 4 exact rfl))|(apply vq;exact cAo)|(apply vv;exact cAo)|(apply jn <;> intro h)|(apply ql;exact rfl;apply wx;exact cAo)|(apply ql;exact rfl;apply wn;exact cAo)|(apply qd;exact rfl;apply cd_t;exact cRa)|(apply qd;exact rfl;apply cd_d <;> intro h)|(apply jc;exact rfl;exact rfl;exact cOs)|apply qv|apply qt|(apply qk;exact Tryz.call213;exact qvw _ _ _ (by omega) rfl rfl)|(apply qk;exact Tryz.call164;exact qgj _ _ _))
 all_goals refine qo rfl (q5 rfl) ⟨congrArg (fun l:Bytes=>Sv l) (?_:_=vk s),_,rfl⟩
 all_goals unfold vk
 all_goals simp_all
theorem qlw (xs:List Bytes):Pure (Ss xs):=zah xs
theorem q7v (l p:Bytes) (r:List Bytes) (st:List AObj) (hl:l.length<4294967281) (h:za l=p::r):qp E 154 [Sv l,Sv [10]] st fun x st'=>x = .sl 1 (Sv p::r.map fun x=>Sv x) none∧st'=st:=by
 have:=za7 l st hl
 rw [h] at this
 exact this
def qjm (f:FldV):AV:=.tu [Ss (if ve f=0 then zu f else []),errN (ve f)]
theorem q3f (f:FldV):Pure (qjm f):=qdi fun x hx=>by
 simp only [List.mem_cons,List.not_mem_nil,or_false] at hx
 rcases hx with rfl|rfl
 ·exact qlw _
 ·exact qkj _
set_option maxHeartbeats 2000000 in
theorem qqd (f:FldV) (st:List AObj) (hl:f.1.length<4294967281) (hv:f.2.length<1000000):qp E 189 [fldA f] st fun r st'=>r=qjm f∧st'=st:=by
 refine qx (q3f _) (qq Tryz.func189 rfl (Nat.le_of_ble_eq_true rfl) ?_)
 by_cases hc:ve f=0
 ·obtain⟨p,r,hp⟩:∃ p r,za f.2=p::r:=⟨_,_,qm1 f.2⟩
  have hpl:p.length≤f.2.length:=qey f.2 p (by rw [hp];simp)
  have hrl:∀ x∈r,x.length≤f.2.length:=fun x hx=>qey f.2 x (by rw [hp];simp [hx])
  have hrn:r.length≤f.2.length:=by have:=qch _ f.2 (Nat.le_refl _);rw [hp] at this;simpa using this
  repeat' (first|(apply x9;(iterate 6 exact rfl))|(apply qv6;(iterate 5 exact rfl);kernel_rfl)|apply qn|apply qw|apply qf|apply qh|apply qj|apply qg|(apply jj;(iterate 3 exact rfl))|(apply qd;exact rfl;apply cd_f;exact cRa)|(apply qd;exact rfl;apply cd_d <;> intro h)|(apply zw;(iterate 4 exact rfl))|(apply jc;exact rfl;exact rfl;exact cOs)|(apply vt;exact rfl;exact rfl)|(apply qa6;(iterate 4 exact rfl))|(apply zj;(iterate 3 exact rfl))|(apply zy;(iterate 3 exact rfl))|(apply jl;(iterate 5 exact rfl))|(apply zz;(iterate 11 exact rfl))|(apply qgv;(iterate 4 exact rfl);(first|assumption|omega|exact Nat.succ_le_succ (Nat.zero_le _)|(simp;omega));exact rfl)|apply qja|(apply qj7;exact rfl;exact rfl;exact cOs)|(apply qma;(iterate 3 exact rfl))|(apply qp0;(iterate 5 exact rfl))|apply qgw|apply qv|(apply qk;exact Tryz.call226;exact qji _ _ hl hc)|(apply qk;exact Tryz.call154;exact q7v _ _ _ _ (by omega) hp)|(apply z8 (n:=0);(iterate 6 exact rfl))|(apply qnx (n:=0);(iterate 6 exact rfl))|(apply qj9 (n:=0);(iterate 5 exact rfl);omega))
  all_goals refine qn0 6 (o:=st.length+1) (sz:=1) (len:=1) (cap:=1) (xs:=[Sv (jp f.1 p)]) (T':=9) rfl (jo rfl) rfl rfl (by omega) (Nat.le_refl _) (by decide) (by simp [AV.cells]) ?_ ?_
  ·exact congrArg (fun l:Bytes=>[Sv l]) (by unfold jp;rw [if_neg h]:jp f.1 p=f.1++[58]++([32]++p))
  rotate_left
  ·exact congrArg (fun l:Bytes=>[Sv l]) (by unfold jp;rw [if_pos (Classical.not_not.1 h),List.append_nil]:jp f.1 p=f.1++[58])
  all_goals
   have hre:qjm f = .tu [Ss (jp f.1 p::r.map fun s=>[32]++vk s),.v .nilIface]:=by
    unfold qjm zu
    rw [if_pos hc,hc,hp]
    rfl
   rw [hre]
   have hst:∀ s,(vk s).length≤s.length+1:=qo8
   refine ye r (fun pre s=>StE [(6,.sl 1 (Sv (jp f.1 p)::pre.map (fun s=>Sv ([32]++vk s))) (some (st.length+1))),(35,.sl 1 (r.map fun x=>Sv x) none),(36,Iv r.length),(37,Iv pre.length)] st [.cells 0 156 [Sv f.1,Sv f.2],.tip (pre.length+1) 1 9] s) (qbj ⟨rfl,rfl,congrArg (fun n:Nat=>Iv (n:Int)) (List.length_map ..),rfl,trivial⟩ (xo st _ 1 _)) ?_ ?_
   ·rintro _ ⟨t,ext,rfl⟩
    repeat' (first|apply qn|apply qf|apply qh|apply qj|apply qg|(apply qr;(iterate 3 exact rfl))|(apply qd;exact rfl;apply vc;exact cAo)|apply z4|apply qt)
    refine qo rfl (q56 rfl rfl rfl (qi0 _ _ _) (qb8 _)) ⟨?_,x2 _ _ _ _⟩
    simp only [Ss,List.map_cons,List.map_map]
    rfl
   ·rintro pre a rest _ hr ⟨t,ext,rfl⟩
    have hlen:r.length=pre.length+(rest.length+1):=by rw [hr];simp
    have hget:(r.map fun x=>Sv x)[pre.length]? = some (Sv a):=by rw [hr];simp
    have ha:a.length≤f.2.length:=hrl a (by rw [hr];simp)
    have hsa:=hst a
    repeat' (first|apply qn|apply qw|apply qf|apply qh|apply qj|apply qg|(apply qr;(iterate 3 exact rfl))|(apply qd;exact rfl;apply ku;exact cAo)|(apply jc;exact rfl;exact rfl;exact cOs)|(apply zi;exact rfl;exact rfl;exact q8 (by omega) (by omega))|(apply zy;(iterate 3 exact rfl))|(apply kw;(iterate 9 exact rfl))|apply qv|(apply qk;exact Tryz.call230;exact zbf _ _ (by omega))|(apply z8 (n:=pre.length);(iterate 5 exact rfl);exact hget)|(apply qap (n:=pre.length+1) (m:=1) (sz:=1) (bytes:=16);(iterate 4 exact rfl);simp;exact rfl;exact rfl;exact⟨⟨_,_,rfl,rfl,rfl,rfl,rfl⟩⟩;exact rfl;exact rfl;(unfold maxLen;omega);omega;exact rfl))
    refine xp ⟨?_,rfl,rfl,?_,trivial⟩ ?_
    ·exact qjx _ (fun s=>Sv ([32]++vk s)) pre a _ rfl
    ·exact qdf pre a
    ·rw [yt pre a];rfl
 ·skip
  repeat' (first|apply qn|apply qf|apply qh|apply qj|apply qg|(apply qd;exact rfl;apply cd_t;exact cRa)|(apply wt;exact rfl;exact rfl)|(apply qa6;(iterate 4 exact rfl))|(apply jl;(iterate 5 exact rfl))|apply qt|(apply qk;exact Tryz.call226;exact qjj _ _ hl hc))
  refine qo rfl (wz (r':=.tu [Ss [],.ifc 76 (Iv (ve f))]) (ki rfl) (qfk (qgq _) (qb8 _))) ⟨?_,_,rfl⟩
  unfold qjm
  rw [if_neg hc,qlr hc]
theorem qha {rd:Option Nat} {N:Nat} {ops:Array Oper} {K:AS→Prop} {s:AS} {rest:List Oper} {d:Option Tmp} {T:TypeId} {p:String} {af:Array Edge} {st loc:List AObj} (hst:s.st=st++loc)
  (h:AOps E rd N ops rest K (AS.put ⟨s.t,st++(loc++[bldO 0 (.v (.pointer none)) [] (st.length+(loc.length+1)),.tip 0 1 5]),s.df⟩ d (.bx (st.length+loc.length) 0 0))):AOps E rd N ops (⟨d,.alloc 219,T,p,af,none⟩::rest) K s:=by
 refine jm hst rfl ?_
 have e:∀ (t:Nat→AV) (st':List AObj) (df:List Nat) (x:AV),(AS.put ⟨t,st',df⟩ d x).st=st':=fun t st' df x=>by cases d <;> rfl
 have e2:∀ (t:Nat→AV) (st' st2:List AObj) (df:List Nat) (x:AV),(⟨(AS.put ⟨t,st',df⟩ d x).t,st2,(AS.put ⟨t,st',df⟩ d x).df⟩:AS)=AS.put ⟨t,st2,df⟩ d x:=fun t st' st2 df x=>by cases d <;> rfl
 refine qzb (o:=st.length+loc.length) (j:=1) (sz:=1) (T':=5) (T1:=219) (ver:=0) (cs:=[.v (.pointer none),zm]) ?_ rfl ?_
 ·rw [e,← List.append_assoc,List.getElem?_append_right (by simp)]
  simp
  rfl
 ·rw [e,e2]
  have hx:(st++(loc++[AObj.cells 0 219 [.v (.pointer none),zm]])).set (st.length+loc.length) (.cells 0 219 ([AV.v (.pointer none),zm].set 1 (.sl 1 [] (some (st++(loc++[AObj.cells 0 219 [.v (.pointer none),zm]])).length))))++[AObj.tip 0 1 5]
    = st++(loc++[bldO 0 (.v (.pointer none)) [] (st.length+(loc.length+1)),.tip 0 1 5]):=by
   rw [xo,List.append_assoc,List.set_append_right _ _ (Nat.le_refl _)]
   simp
  have h':=h
  rw [← hx] at h'
  exact h'
theorem qie (st loc ext new loc':List AObj) (k kt ver:Nat) (q:AV) (l m:List UInt8) (hk:loc[k]? = some (bldO ver q l (st.length+kt))) (hkt:loc[kt]? = some (.tip l.length 1 5)) (hq:q = .v (.pointer none)∨q = .bx (st.length+k) ver 0)
  (hlen:l.length+m.length≤140737488355328) (hl:loc'=(loc.set k (bldO ver (.bx (st.length+k) ver 0) (l++m) (st.length+kt))).set kt (.tip (l++m).length 1 5)) :
  qp E 136 [.bx (st.length+k) ver 0,Sv m] (((st++loc)++ext)++new) fun r st'=>r = .tu [Iv m.length,.v .nilIface]∧st'=((st++loc')++ext)++new:=by
 refine (qzm (st.length+k) ver (st.length+kt) q l m _ (qa4 hk) (qa4 hkt) hq hlen).mono fun r st' ⟨h1,h2⟩=>⟨h1,?_⟩
 have hk1:=lt_of_getElem? hk
 have hk2:=lt_of_getElem? hkt
 rw [h2,qek _ hk1,qek _ (by simpa using hk2),hl,List.length_append]
theorem qhc (st loc ext new loc':List AObj) (k kt ver:Nat) (q:AV) (l:List UInt8) (hk:loc[k]? = some (bldO ver q l (st.length+kt))) (hkt:loc[kt]? = some (.tip l.length 1 5)) (hl:loc'=loc.set kt .dead) :
  qp E 139 [.bx (st.length+k) ver 0] (((st++loc)++ext)++new) fun r st'=>r=Sv l∧st'=((st++loc')++ext)++new:=by
 refine (qv8 (st.length+k) ver (st.length+kt) q l _ (qa4 hk) (qa4 hkt)).mono fun r st' ⟨h1,h2⟩=>⟨h1,?_⟩
 rw [h2,qek _ (lt_of_getElem? hkt),hl]
theorem qrs:∀ (r:List Bytes),(zk (r.map fun s=>[32]++vk s)).length≤3 * (r.flatMap fun s=>[10]++s).length
 | []=>by simp [zk]
 |a::r=>by
  have ih:=qrs r
  have:=qo8 a
  simp only [zk,List.map_cons,List.flatMap_cons,List.length_append,List.length_cons,List.length_nil] at ih ⊢
  omega
theorem yi (a b:List Bytes):zk (a++b)=zk a++zk b:=by simp [zk]
theorem qf6 (s:Bytes):zk [s]=s++[10]:=by simp [zk]
theorem qlh:∀ (l:List Bytes),l.length≤(zk l).length
 | []=>by simp
 |a::r=>by
  have ih:=qlh r
  simp only [zk,List.flatMap_cons,List.length_append,List.length_cons,List.length_nil] at ih ⊢
  omega
theorem qwt (a b:List Fld):zq (a++b)=zq a++zq b:=by simp [zq]
theorem qwu (f:Fld):zq [f]=zk (zu f):=by simp [zq]
theorem qth {f:Fld} (h:ka f):(zk (zu f)).length≤5000:=by
 obtain⟨hk,hv⟩:=h
 have h1:=qrs (za f.2).tail
 have h2:=congrArg List.length (qin _ f.2 (Nat.le_refl _))
 have h3:(jp f.1 ((za f.2).headD [])).length≤32+2+((za f.2).headD []).length:=by
  have:=hk.2.1
  unfold jp
  split <;> simp <;> omega
 have e:zu f=[jp f.1 ((za f.2).headD [])]++(za f.2).tail.map fun s=>[32]++vk s:=rfl
 rw [e,yi,qf6]
 simp only [List.length_append,List.length_cons,List.length_nil] at h2 ⊢
 omega
theorem qfr:∀ (xs:List Fld),(∀ f∈xs,ka f)→(zq xs).length≤5000 * xs.length
 | [],_=>by simp [zq]
 |f::r,h=>by
  have ih:=qfr r fun x hx=>h x (by simp [hx])
  have h1:=qth (h f (by simp))
  have e:zq (f::r)=zk (zu f)++zq r:=by simp [zq]
  rw [e,List.length_append,List.length_cons]
  omega
def errF:List Fld→Int
 | []=>0
 |f::r=>if ve f≠0 then ve f else errF r
theorem qoa:∀ (xs:List Fld),errF xs=0↔∀ f∈xs,ka f
 | []=>by simp [errF]
 |f::r=>by
  have ih:=qoa r
  unfold errF
  by_cases h:ve f≠0
  ·rw [if_pos h]
   have hg:¬ ka f:=fun hg=>h ((qde f).2 hg)
   simp [h,hg]
  ·have hg:=(qde f).1 (Classical.not_not.1 h)
   rw [if_neg h,ih]
   simp [hg]
theorem q4s:∀ {pre:List Fld} {f:Fld} {r:List Fld},(∀ x∈pre,ka x)→ve f≠0→errF (pre++f::r)=ve f
 | [],f,r,_,h=>by simp [errF,h]
 |x::pre,f,r,hp,h=>by
  have:=(qde x).2 (hp x (by simp))
  simp only [List.cons_append,errF,this]
  rw [if_neg (by simp)]
  exact q4s (fun y hy=>hp y (by simp [hy])) h
theorem q0i (f:FldV) (st:List AObj) (hl:f.1.length<4294967281) (hv:f.2.length<1000000) (h:ve f=0):qp E 189 [fldA f] st fun r st'=>r = .tu [Ss (zu f),.v .nilIface]∧st'=st:=by
 have:=qqd f st hl hv
 unfold qjm at this
 rw [if_pos h,h] at this
 exact this
theorem q0j (f:FldV) (st:List AObj) (hl:f.1.length<4294967281) (hv:f.2.length<1000000) (h:ve f≠0):qp E 189 [fldA f] st fun r st'=>r = .tu [Ss [],.ifc 76 (Iv (ve f))]∧st'=st:=by
 have:=qqd f st hl hv
 unfold qjm at this
 rw [if_neg h,qlr h] at this
 exact this
def qs3 (xs:List Fld):AV:=.tu [Sv (if errF xs=0 then zq xs else []),errN (errF xs)]
theorem q6x (xs:List Fld):Pure (qs3 xs):=qdi fun x hx=>by
 simp only [List.mem_cons,List.not_mem_nil,or_false] at hx
 rcases hx with rfl|rfl
 ·exact qs _
 ·exact qkj _
structure qyg (xs:List FldV):Prop where
 len:xs.length<1000000
 val:∀ f∈xs,f.1.length<4294967281∧f.2.length<1000000
set_option maxHeartbeats 2000000 in
theorem zho (xs:List FldV) (st:List AObj) (hx:qyg xs):qp E 135 [jw xs] st fun r st'=>r=qs3 xs∧st'=st:=by
 refine qx (q6x _) (qq Tryz.func135 rfl (Nat.le_of_ble_eq_true rfl) ?_)
 have hxl:=hx.len
 repeat' (first|(apply qha;exact rfl)|apply qn|apply qw|apply qf|apply qh|apply qj|apply qg|(apply zw;(iterate 4 exact rfl)))
 refine ye xs (fun pre s=>(∀ f∈pre,ka f)∧∃ q,(q = .v (.pointer none)∨q = .bx (st.length+0) 0 0)∧StE [(4,.bx (st.length+0) 0 0),(11,jw xs),(12,Iv xs.length),(13,Iv pre.length)] st [bldO 0 q (zq pre) (st.length+1),.tip (zq pre).length 1 5] s) ⟨by simp,_,.inl rfl,qbj ⟨rfl,rfl,congrArg (fun n:Nat=>Iv (n:Int)) (List.length_map ..),rfl,trivial⟩ rfl⟩ ?_ ?_
 ·rintro _ ⟨hg,q,hq,t,ext,rfl⟩
  repeat' (first|apply qn|apply qf|apply qh|apply qg|(apply qr;(iterate 3 exact rfl))|(apply qd;exact rfl;apply vc;exact cAo)|apply z4|apply qt|(refine qk Tryz.call139 (qhc st _ _ _ _ 0 1 0 _ _ rfl rfl rfl) ?_))
  refine qo rfl (ki rfl) ⟨?_,x2 _ _ _ _⟩
  unfold qs3
  have h0:=(qoa xs).2 hg
  rw [if_pos h0,h0]
  rfl
 ·rintro pre f rest _ hr ⟨hg,q,hq,t,ext,rfl⟩
  have hlen:xs.length=pre.length+(rest.length+1):=by rw [hr];simp
  have hget:(xs.map fldA)[pre.length]? = some (fldA f):=by rw [hr];simp
  obtain⟨hf1,hf2⟩:=hx.val f (by rw [hr];simp)
  by_cases hc:ve f=0
  ·have hgf:=(qde f).1 hc
   have hb1:=qfr pre hg
   have hb2:=qth hgf
   repeat' (first|apply qn|apply qw|apply qf|apply qh|apply qj|apply qg|(apply zf;exact rfl;exact rfl)|(apply qr;(iterate 3 exact rfl))|(apply qd;exact rfl;apply ku;exact cAo)|(apply qd;exact rfl;apply cd_f;exact cRa)|(apply zw;(iterate 4 exact rfl))|(apply vt;exact rfl;exact rfl)|(apply jm;exact rfl;exact rfl)|(apply zy;(iterate 3 exact rfl))|(apply jl;(iterate 5 exact rfl))|(apply zz;(iterate 11 exact rfl))|apply qv|(apply qk;exact Tryz.call189;exact q0i _ _ hf1 hf2 hc)|(apply z8 (n:=pre.length);(iterate 5 exact rfl);exact hget))
   refine ye (zu f) (fun lp s=>∃ q,(q = .v (.pointer none)∨q = .bx (st.length+0) 0 0)∧StE [(4,.bx (st.length+0) 0 0),(11,jw xs),(12,Iv xs.length),(13,Iv pre.length),(25,Ss (zu f)),(26,Iv (zu f).length),(27,Iv lp.length)] st [bldO 0 q (zq pre++zk lp) (st.length+1),.tip (zq pre++zk lp).length 1 5] s) ⟨_,hq,xp ⟨rfl,rfl,rfl,rfl,rfl,congrArg (fun n:Nat=>Iv (n:Int)) (List.length_map ..),rfl,trivial⟩ (by simp [zk])⟩ ?_ ?_
   ·rintro _ ⟨q,hq,t,ext,rfl⟩
    repeat' (first|apply qn|apply qf|apply qh|apply qj|(apply qr;(iterate 3 exact rfl))|(apply qd;exact rfl;apply vc;exact cAo)|(apply zi;exact rfl;exact rfl;exact q8 (by omega) (by omega))|apply z4)
    refine⟨fun x hx=>?_,q,hq,xp ⟨rfl,rfl,rfl,?_,trivial⟩ ?_⟩
    ·rcases List.mem_append.1 hx with hx|hx
     ·exact hg x hx
     ·simp at hx;subst hx;exact hgf
    ·rw [yt pre f];rfl
    ·rw [qwt,qwu]
   ·rintro lp a lr _ hlr ⟨q,hq,t,ext,rfl⟩
    have hlen2:(zu f).length=lp.length+(lr.length+1):=by rw [hlr];simp
    have hget2:((zu f).map fun x=>Sv x)[lp.length]? = some (Sv a):=by rw [hlr];simp
    have hb3:(zk lp).length+(a.length+1)≤5000:=by
     rw [hlr,yi] at hb2
     have:a::lr=[a]++lr:=rfl
     rw [this,yi,qf6] at hb2
     simp only [List.length_append,List.length_cons,List.length_nil] at hb2
     omega
    have hct:=qlh lp
    repeat' (first|apply qn|apply qw|apply qf|apply qh|apply qj|apply qg|(apply qr;(iterate 3 exact rfl))|(apply qd;exact rfl;apply ku;exact cAo)|(apply jc;exact rfl;exact rfl;exact cOs)|(apply zy;(iterate 3 exact rfl))|apply qv|(apply z8 (n:=lp.length);(iterate 5 exact rfl);exact hget2))
    refine qk Tryz.call136 (qie st _ _ _ _ 0 1 0 _ _ _ rfl rfl ?_ ?_ rfl) ?_;(exact hq);(simp only [List.length_append,List.length_cons,List.length_nil];omega)
    repeat' (first|apply qf|apply qh|apply qj|(apply zi;exact rfl;exact rfl;exact q8 (by omega) (by omega)))
    refine⟨_,.inr rfl,xp ⟨rfl,rfl,rfl,rfl,rfl,rfl,?_,trivial⟩ ?_⟩
    ·rw [yt lp a];rfl
    ·have e:zq pre++zk (lp++[a])=(zq pre++zk lp)++(a++[10]):=by rw [yi,qf6,List.append_assoc]
     rw [e];rfl
  ·skip
   repeat' (first|apply qn|apply qw|apply qf|apply qh|apply qj|apply qg|(apply zf;exact rfl;exact rfl)|(apply qr;(iterate 3 exact rfl))|(apply qd;exact rfl;apply ku;exact cAo)|(apply qd;exact rfl;apply cd_t;exact cRa)|(apply wt;exact rfl;exact rfl)|(apply jm;exact rfl;exact rfl)|(apply zy;(iterate 3 exact rfl))|(apply jl;(iterate 5 exact rfl))|(apply zz;(iterate 11 exact rfl))|apply qv|apply qt|(apply qk;exact Tryz.call189;exact q0j _ _ hf1 hf2 hc)|(apply z8 (n:=pre.length);(iterate 5 exact rfl);exact hget))
   refine qo rfl (ki rfl) ⟨?_,x2 _ _ _ _⟩
   unfold qs3
   have h0:errF xs=ve f:=by rw [hr];exact q4s hg hc
   rw [h0,if_neg hc,qlr hc]
   rfl
theorem qw7:∀ (n:Nat) (l:Bytes),l.length≤n→za (l++[10])=za l++[[]]
 |n,l,hn=>by
  by_cases h:10∈l
  ·have hne:l≠[]:=fun e=>by subst e;simp at h
   have hlt:=wy (c:=10) hne
   cases n with
   |zero=>omega
   |succ n=>
    have ih:=qw7 n (past 10 l) (by omega)
    have e:=wg h
    have e2:l++[10]=upto 10 l++10::(past 10 l++[10]):=(congrArg (· ++ [10]) e).trans (by simp)
    rw [ym (by simp [h]),ym h,e2,v8 _ (qal 10 l),xu _ (qal 10 l),ih]
    rfl
  ·rw [ym (by simp),yn h,v8 [] h,xu [] h]
   rw [yn (by simp)]
   rfl
theorem qee:∀ (n:Nat) (l:Bytes) (c:UInt8),l.length≤n→c≠10→za (l++[c])=(za l).set ((za l).length - 1) ((za l).getD ((za l).length - 1) []++[c])
 |n,l,c,hn,hc=>by
  by_cases h:10∈l
  ·have hne:l≠[]:=fun e=>by subst e;simp at h
   have hlt:=wy (c:=10) hne
   cases n with
   |zero=>omega
   |succ n=>
    have ih:=qee n (past 10 l) c (by omega) hc
    have e:=wg h
    have e2:l++[c]=upto 10 l++10::(past 10 l++[c]):=(congrArg (· ++ [c]) e).trans (by simp)
    have hp:=qgl (past 10 l)
    have hpl:0<(za (past 10 l)).length:=List.length_pos_iff.2 hp
    rw [ym (by simp [h]),ym h,e2,v8 _ (qal 10 l),xu _ (qal 10 l),ih]
    have e3:(upto 10 l::za (past 10 l)).length - 1=(za (past 10 l)).length - 1+1:=by simp;omega
    rw [e3,List.set_cons_succ]
    simp
  ·have h2:10∉l++[c]:=by simp [h,Ne.symm hc]
   rw [yn h,yn h2]
   simp
theorem q3n (l:Bytes):(za l).length≤l.length+1:=qch _ l (Nat.le_refl _)
theorem zbe (xs:List Bytes):flat (xs.map fun x=>Sv x)=xs.map fun x=>Sv x:=by
 induction xs with
 |nil=>rfl
 |cons a xs ih=>rw [List.map_cons,qbv,ih];rfl
set_option maxHeartbeats 2000000 in
theorem q7p (l:Bytes) (st:List AObj) (hl:l.length<1000000):qp E 260 [Sv l] st fun r st'=>r=Ss (za l)∧st'=st:=by
 refine qx (qlw _) (qq Tryz.func260 rfl (Nat.le_of_ble_eq_true rfl) ?_)
 have h0:Vec 1 9 (st.length+0) ((za []).map fun x=>Sv x) (.os (st.length+0) 0 0 1 1) (.cells 0 9 [Sv []]):=by
  rw [yn (by simp)]
  exact .os 0 1 [] rfl (by simp [AV.cells]) (Nat.le_refl _) (by decide)
 repeat' (first|(apply x9;(iterate 6 exact rfl))|apply qn|apply qw|apply qf|apply qh|apply qg)
 refine ye l (fun pre s=>∃ v ob,Vec 1 9 (st.length+0) ((za pre).map fun x=>Sv x) v ob∧StE [(0,Sv l),(3,v),(4,Iv pre.length)] st [ob] s) ⟨_,_,h0,qbj ⟨rfl,rfl,rfl,trivial⟩ rfl⟩ ?_ ?_
 ·rintro _ ⟨v,ob,hV,t,ext,rfl⟩
  repeat' (first|apply qn|apply qf|apply qh|apply qj|apply qg|(apply qr;(iterate 3 exact rfl))|(apply qd;exact rfl;apply vc;exact cAo)|(apply zn;(iterate 3 exact rfl))|apply z4|apply qt)
  exact zb6 (q27 2 rfl rfl hV rfl) (qo rfl (q5 rfl) ⟨rfl,x2 _ _ _ _⟩)
 ·rintro pre c rest _ hr ⟨v,ob,hV,t,ext,rfl⟩
  have hlen:l.length=pre.length+(rest.length+1):=by rw [hr];simp
  have hget:l.getD pre.length 0=c:=by rw [hr];simp
  have hsp:(l.take (pre.length+1)).drop pre.length=[c]:=by rw [hr,show pre++c::rest=(pre++[c])++rest by simp,List.take_left' (by simp),List.drop_left' rfl]
  have hpc:=q3n pre
  rcases q2p hV with⟨h0,_⟩ | ⟨ver,cap,pad,rfl,rfl,hvl,hvw,hvle,hvm⟩
  ·exact absurd (List.map_eq_nil_iff.1 h0) (qgl pre)
  simp only [List.length_map] at hvle
  have hpos:0<(za pre).length:=List.length_pos_iff.2 (qgl pre)
  have hml:((za pre).map fun x=>Sv x).length=(za pre).length:=by simp
  have hpl:((za pre).getD ((za pre).length - 1) []).length≤pre.length:=by
   have hlt:(za pre).length - 1<(za pre).length:=by omega
   have e:(za pre).getD ((za pre).length - 1) []=(za pre)[(za pre).length - 1]:=by simp [List.getD,hlt]
   rw [e]
   exact qey pre _ (List.getElem_mem _)
  have hdl:((l.take (pre.length+1)).drop pre.length).length=1:=by rw [hsp];rfl
  have hld:(flat ((za pre).map fun x=>Sv x)++pad)[0+((za pre).length - 1) * 1]? = some (Sv ((za pre).getD ((za pre).length - 1) [])):=by
   rw [zbe,Nat.zero_add,Nat.mul_one,List.getElem?_append_left (by simp;omega),List.getElem?_map]
   have:(za pre)[(za pre).length - 1]? = some ((za pre).getD ((za pre).length - 1) []):=by
    have:(za pre).length - 1<(za pre).length:=by omega
    simp [List.getD,this]
   rw [this]
   rfl
  repeat' (first|(apply qv6;(iterate 5 exact rfl);kernel_rfl)|apply qn|apply qw|apply qf|apply qh|apply qj|(apply qr;(iterate 3 exact rfl))|(apply qd;exact rfl;apply ku;exact cAo)|(apply qd;exact rfl;apply cd_d <;> intro h)|(apply zn;(iterate 3 exact rfl))|(apply v4;(iterate 3 exact rfl);exact cAs)|(apply kw;(iterate 9 exact rfl))|apply qja|(apply q4g;(iterate 4 exact rfl))|(apply q8e;exact rfl;exact rfl;exact q8 (by omega) (by omega))|(apply q4i;(iterate 4 exact rfl);exact cAs;exact cAs)|(apply qj7;exact rfl;exact rfl;exact cOs)|apply qgw|(apply qzd;exact rfl;exact rfl;exact q8 (by omega) (by omega))|apply qv|(apply qj9 (n:=(za pre).length - 1);(iterate 4 exact rfl);(simp;omega);(simp;omega))|(apply qp1;(iterate 4 exact rfl);exact hld))
  ·refine qxt (xs:=(za pre).map fun x=>Sv x) (ys:=[Sv []]) (sz:=1) (bytes:=16) rfl rfl rfl hV rfl rfl rfl ⟨⟨_,_,rfl,rfl,rfl,rfl,rfl⟩⟩ rfl ?_ ?_ ?_
   ·simp [maxLen];omega
   ·simp;omega
   intro a' ob' hV'
   repeat' (first|apply qf|apply qh|apply qj|apply qg|(apply zi;exact rfl;exact rfl;exact q8 (by omega) (by omega)))
   have hc:c=10:=by rw [hget] at h;exact (qbf c).1 h
   refine⟨a',ob',?_,xp ⟨rfl,rfl,?_,trivial⟩ rfl⟩
   ·rw [hc,qw7 _ pre (Nat.le_refl _),List.map_append]
    exact hV'
   ·rw [yt pre c];rfl
  ·refine qsd (k:=0) (sz:=1) rfl rfl rfl rfl rfl rfl rfl rfl rfl (by show 0+((za pre).length - 1) * 1+1≤_;rw [hvl];omega) ?_
   repeat' (first|apply qf|apply qh|apply qj|apply qg|(apply zi;exact rfl;exact rfl;exact q8 (by omega) (by omega)))
   have hc:c≠10:=fun e=>by rw [hget] at h;exact h ((qbf c).2 e)
   refine⟨_,_,?_,xp ⟨rfl,rfl,?_,trivial⟩ rfl⟩
   ·rw [qee _ pre c (Nat.le_refl _) hc,← hsp]
    have:=zg4 (o:=st.length+0) (T:=9) (ver:=ver) (sz:=1) hvl hvw (by simpa using hvle) hvm (i:=(za pre).length - 1) (x:=Sv ((za pre).getD ((za pre).length - 1) []++(l.take (pre.length+1)).drop pre.length)) rfl (by simp;omega)
    rw [← List.map_set] at this
    exact this
   ·rw [yt pre c];rfl
theorem q1x (f:FldV) (st:List AObj) (hl:f.1.length<4294967281):qp E 259 [fldA f] st fun r st'=>r=Iv (ve f)∧st'=st:=by
 refine qx (qs _) (qq Tryz.func259 rfl (Nat.le_of_ble_eq_true rfl) ?_)
 repeat' (first|apply qn|apply qf|apply qh|apply qg|(apply qr;(iterate 3 exact rfl))|(apply je;exact rfl)|(apply qd;exact rfl;apply cd_n <;> intro h)|(apply qd;exact rfl;apply cd_d <;> intro h)|(apply zn;(iterate 3 exact rfl))|(apply qa6;(iterate 4 exact rfl))|(apply zj;(iterate 3 exact rfl))|(apply jl;(iterate 5 exact rfl))|apply qv|apply qt|(apply qk;exact Tryz.call223;exact q14 _ _ hl))
 all_goals refine qo rfl (q5 rfl) ⟨congrArg Iv (?_:_=ve f),_,rfl⟩
 ·exact (if_pos (by simp_all):ve f=5).symm
 ·exact ((if_neg (by simp_all)).trans (if_pos (by omega)):ve f=6).symm
 ·exact ((if_neg (by simp_all)).trans (if_neg (by omega)):ve f=0).symm
theorem zc4 {s:Bytes} (h:10∉s):qz s=1↔qcb s:=by
 unfold qz qcb
 rw [if_neg h]
 by_cases hb:∀ c∈s,wl c
 ·rw [if_pos hb]
  exact⟨fun _=>hb,fun _=>rfl⟩
 ·rw [if_neg hb]
  refine⟨fun h=>?_,fun h=>absurd h hb⟩
  exfalso
  revert h
  repeat' split
  all_goals decide
theorem zdl (l p:Bytes) (r:List Bytes) (st:List AObj) (hl:l.length<1000000) (h:za l=p::r):qp E 260 [Sv l] st fun x st'=>x = .sl 1 (Sv p::r.map fun x=>Sv x) none∧st'=st:=by
 have:=q7p l st hl
 rw [h] at this
 exact this
theorem q3h {f:Fld} {p:Bytes} {r:List Bytes} (h:za f.2=p::r):zu f=jp f.1 p::r.map fun s=>[32]++vk s:=by
 unfold zu
 rw [h]
 rfl
set_option maxHeartbeats 2000000 in
theorem q3r (f:FldV) (st:List AObj) (hl:f.1.length<4294967281) (hv:f.2.length<1000000):qp E 225 [fldA f] st fun r st'=>r=Ss (zu f)∧st'=st:=by
 refine qx (qlw _) (qq Tryz.func225 rfl (Nat.le_of_ble_eq_true rfl) ?_)
 obtain⟨p,r,hp⟩:∃ p r,za f.2=p::r:=⟨_,_,qm1 f.2⟩
 have hpl:p.length≤f.2.length:=qey f.2 p (by rw [hp];simp)
 have hrl:∀ x∈r,x.length≤f.2.length:=fun x hx=>qey f.2 x (by rw [hp];simp [hx])
 have hr10:∀ x∈r,10∉x:=fun x hx=>qef f.2 x (by rw [hp];simp [hx])
 have hrn:r.length≤f.2.length:=by have:=qch _ f.2 (Nat.le_refl _);rw [hp] at this;simpa using this
 have hlen:(Sv p::r.map fun x=>Sv x).length=r.length+1:=by simp
 repeat' (first|(apply x9;(iterate 6 exact rfl))|apply qn|apply qw|apply qf|apply qh|apply qj|apply qg|(apply jj;(iterate 3 exact rfl))|(apply qd;exact rfl;apply cd_d <;> intro h)|(apply jc;exact rfl;exact rfl;exact cOs)|(apply qa6;(iterate 4 exact rfl))|(apply zj;(iterate 3 exact rfl))|(apply zy;(iterate 3 exact rfl))|(apply jl;(iterate 5 exact rfl))|apply qv|(apply qk;exact Tryz.call260;exact zdl _ _ _ _ hv hp)|(apply z8 (n:=0);(iterate 6 exact rfl)))
 all_goals refine qn0 5 (o:=st.length+1) (sz:=1) (len:=1) (cap:=1) (xs:=[Sv (jp f.1 p)]) (T':=9) rfl (jo rfl) rfl rfl (by omega) (Nat.le_refl _) (by decide) (by simp [AV.cells]) ?_ ?_
 ·exact congrArg (fun l:Bytes=>[Sv l]) (by unfold jp;rw [if_neg (by assumption)];simp:jp f.1 p=f.1++[58]++[32]++p)
 rotate_left
 ·exact congrArg (fun l:Bytes=>[Sv l]) (by unfold jp;rw [if_pos (Classical.not_not.1 (by assumption)),List.append_nil]:jp f.1 p=f.1++[58])
 all_goals
  rw [q3h hp]
  refine ye r (fun pre s=>StE [(3,.sl 1 (Sv p::r.map fun x=>Sv x) none),(5,.sl 1 (Sv (jp f.1 p)::pre.map (fun s=>Sv ([32]++vk s))) (some (st.length+1))),(6,Iv (pre.length+1))] st [.cells 0 156 [Sv f.1,Sv f.2],.tip (pre.length+1) 1 9] s) (qbj ⟨rfl,rfl,rfl,trivial⟩ (xo st _ 1 _)) ?_ ?_
  ·rintro _ ⟨t,ext,rfl⟩
   repeat' (first|apply qn|apply qf|apply qh|apply qj|apply qg|(apply qr;(iterate 3 exact rfl))|(apply qd;exact rfl;apply vc;exact cAo)|(apply zw;(iterate 4 exact rfl))|apply z4|apply qt)
   refine qo rfl (q55 rfl rfl (qi0 _ _ _)) ⟨?_,x2 _ _ _ _⟩
   simp only [Ss,List.map_cons,List.map_map]
   rfl
  ·rintro pre a rest _ hr ⟨t,ext,rfl⟩
   have hrlen:r.length=pre.length+(rest.length+1):=by rw [hr];simp
   have hget:(Sv p::r.map fun x=>Sv x)[pre.length+1]? = some (Sv a):=by rw [hr];simp
   have ha:a.length≤f.2.length:=hrl a (by rw [hr];simp)
   have ha10:10∉a:=hr10 a (by rw [hr];simp)
   have hk:=zc4 ha10
   have hsa:=qo8 a
   by_cases hb:qz a=1
   ·have hs:vk a=46::a:=if_pos (.inl (hk.1 hb))
    repeat' (first|apply qn|apply qw|apply qf|apply qh|apply qj|apply qg|(apply qr;(iterate 3 exact rfl))|(apply qy;(iterate 4 exact rfl))|(apply vv;exact cAo)|(apply ql;exact rfl;apply wx;exact cAo)|(apply qd;exact rfl;apply ku;exact cAo)|(apply qd;exact rfl;apply cd_t;exact cRa)|(apply zw;(iterate 4 exact rfl))|(apply jc;exact rfl;exact rfl;exact cOs)|(apply zi;exact rfl;exact rfl;exact q8 (by omega) (by omega))|(apply zy;(iterate 3 exact rfl))|(apply kw;(iterate 9 exact rfl))|apply qv|(apply qk;exact Tryz.call108;exact qfz _ _ (by omega))|(apply z8 (n:=pre.length+1);(iterate 5 exact rfl);exact hget)|(apply qap (n:=pre.length+1) (m:=1) (sz:=1) (bytes:=16);(iterate 4 exact rfl);simp;exact rfl;exact rfl;exact⟨⟨_,_,rfl,rfl,rfl,rfl,rfl⟩⟩;exact rfl;exact rfl;(unfold maxLen;omega);omega;exact rfl))
    refine xp ⟨rfl,?_,?_,trivial⟩ ?_
    ·exact qjx _ (fun s=>Sv ([32]++vk s)) pre a _ (congrArg (fun l:Bytes=>Sv ([32]++l)) hs.symm:Sv ([32,46]++a)=_)
    ·exact qrf pre a
    ·rw [yt pre a];rfl
   ·have hne:a≠[]:=fun e=>hb (hk.2 (by subst e;intro c hc;simp at hc))
    have hpos:0<a.length:=List.length_pos_iff.2 hne
    have hh:a.head? = some (a.getD 0 0):=by cases a with|nil=>exact absurd rfl hne|cons x y=>rfl
    have hs:vk a=if a.getD 0 0=46 then 46::a else a:=by
     unfold vk
     have hnb:¬ qcb a:=fun h=>hb (hk.2 h)
     rw [hh]
     simp [hnb]
    have h46:((a.getD 0 0).toNat:Int)=46↔a.getD 0 0=46:=u8i _ 46 (by omega)
    repeat' (first|apply qn|apply qw|apply qf|apply qh|apply qj|apply qg|(apply qr;(iterate 3 exact rfl))|(apply qy;(iterate 4 exact rfl))|(apply vq;exact cAo)|(apply ql;exact rfl;apply wn;exact cAo)|(apply qd;exact rfl;apply ku;exact cAo)|(apply qd;exact rfl;apply cd_d <;> intro h)|(apply zw;(iterate 4 exact rfl))|(apply jc;exact rfl;exact rfl;exact cOs)|(apply zi;exact rfl;exact rfl;exact q8 (by omega) (by omega))|(apply zy;(iterate 3 exact rfl))|(apply v4;(iterate 3 exact rfl);exact cAs)|(apply kw;(iterate 9 exact rfl))|apply qv|(apply qk;exact Tryz.call108;exact qfz _ _ (by omega))|(apply z8 (n:=pre.length+1);(iterate 5 exact rfl);exact hget)|(apply qap (n:=pre.length+1) (m:=1) (sz:=1) (bytes:=16);(iterate 4 exact rfl);simp;exact rfl;exact rfl;exact⟨⟨_,_,rfl,rfl,rfl,rfl,rfl⟩⟩;exact rfl;exact rfl;(unfold maxLen;omega);omega;exact rfl))
    ·have hq:((a.getD 0 0).toNat:Int)=46:=by assumption
     refine xp ⟨rfl,?_,?_,trivial⟩ ?_
     ·exact qjx _ (fun s=>Sv ([32]++vk s)) pre a _ (congrArg (fun l:Bytes=>Sv ([32]++l)) (hs.trans (if_pos (h46.1 hq))).symm:Sv ([32,46]++a)=_)
     ·exact qrf pre a
     ·rw [yt pre a];rfl
    ·have hq:¬ ((a.getD 0 0).toNat:Int)=46:=by assumption
     refine xp ⟨rfl,?_,?_,trivial⟩ ?_
     ·exact qjx _ (fun s=>Sv ([32]++vk s)) pre a _ (congrArg (fun l:Bytes=>Sv ([32]++l)) (hs.trans (if_neg (fun e=>hq (h46.2 e)))).symm:Sv ([32]++a)=_)
     ·exact qrf pre a
     ·rw [yt pre a];rfl
theorem qqk (f:Fld):(zk (zu f)).length≤f.1.length+3 * f.2.length+3:=by
 have h1:=qrs (za f.2).tail
 have h2:=congrArg List.length (qin _ f.2 (Nat.le_refl _))
 have h3:(jp f.1 ((za f.2).headD [])).length≤f.1.length+2+((za f.2).headD []).length:=by
  unfold jp
  split <;> simp <;> omega
 have e:zu f=[jp f.1 ((za f.2).headD [])]++(za f.2).tail.map fun s=>[32]++vk s:=rfl
 rw [e,yi,qf6]
 simp only [List.length_append,List.length_cons,List.length_nil] at h2 ⊢
 omega
theorem qs4:∀ (xs:List Fld),(∀ f∈xs,f.1.length<4294967281∧f.2.length<1000000)→(zq xs).length≤5000000000 * xs.length
 | [],_=>by simp [zq]
 |f::r,h=>by
  have ih:=qs4 r fun x hx=>h x (by simp [hx])
  have h1:=qqk f
  have h2:=h f (by simp)
  have e:zq (f::r)=zk (zu f)++zq r:=by simp [zq]
  rw [e,List.length_append,List.length_cons]
  omega
set_option maxHeartbeats 2000000 in
theorem qxg (xs:List FldV) (st:List AObj) (hx:qyg xs):qp E 184 [jw xs] st fun r st'=>r=Sv (zq xs)∧st'=st:=by
 refine qx (qs _) (qq Tryz.func184 rfl (Nat.le_of_ble_eq_true rfl) ?_)
 have hxl:=hx.len
 have hml:(xs.map fldA).length=xs.length:=by simp
 repeat' (first|apply qn|apply qw|apply qf|apply qh|apply qg)
 refine ye xs (fun pre s=>StE [(0,jw xs),(3,Sv (zq pre)),(4,Iv pre.length)] st [] s) (qbj ⟨rfl,rfl,rfl,trivial⟩ rfl) ?_ ?_
 ·rintro _ ⟨t,ext,rfl⟩
  repeat' (first|apply qn|apply qf|apply qh|apply qj|apply qg|(apply qr;(iterate 3 exact rfl))|(apply qd;exact rfl;apply vc;exact cAo)|(apply zw;(iterate 4 exact rfl))|apply z4|apply qt)
  exact qo rfl (q5 rfl) ⟨rfl,x2 _ _ _ _⟩
 ·rintro pre f rest _ hr ⟨t,ext,rfl⟩
  have hlen:xs.length=pre.length+(rest.length+1):=by rw [hr];simp
  have hget:(xs.map fldA)[pre.length]? = some (fldA f):=by rw [hr];simp
  obtain⟨hf1,hf2⟩:=hx.val f (by rw [hr];simp)
  have hb1:=qs4 pre fun g hg=>hx.val g (by rw [hr];simp [hg])
  have hb2:=qqk f
  repeat' (first|apply qn|apply qw|apply qf|apply qh|apply qj|(apply qr;(iterate 3 exact rfl))|(apply qd;exact rfl;apply ku;exact cAo)|(apply zw;(iterate 4 exact rfl))|(apply zy;(iterate 3 exact rfl))|apply qv|(apply qk;exact Tryz.call225;exact q3r _ _ hf1 hf2)|(apply z8 (n:=pre.length);(iterate 5 exact rfl);exact hget))
  refine ye (zu f) (fun lp s=>StE [(0,jw xs),(3,Sv (zq pre++zk lp)),(4,Iv pre.length),(17,Ss (zu f)),(18,Iv (zu f).length),(19,Iv lp.length)] st [] s) ?_ ?_ ?_
  ·refine xp ⟨rfl,?_,rfl,rfl,congrArg (fun n:Nat=>Iv (n:Int)) (List.length_map ..),rfl,trivial⟩ rfl
   exact (congrArg (fun l:Bytes=>Sv l) (by simp [zk]):Sv (zq pre)=Sv (zq pre++zk []))
  ·rintro _ ⟨t,ext,rfl⟩
   repeat' (first|apply qn|apply qf|apply qh|apply qj|apply qg|(apply qr;(iterate 3 exact rfl))|(apply qd;exact rfl;apply vc;exact cAo)|(apply zi;exact rfl;exact rfl;exact q8 (by omega) (by omega))|apply z4)
   refine xp ⟨rfl,?_,?_,trivial⟩ rfl
   ·exact (congrArg (fun l:Bytes=>Sv l) (by rw [qwt,qwu]):Sv (zq pre++zk (zu f))=Sv (zq (pre++[f])))
   ·exact qdf pre f
  ·rintro lp a lr _ hlr ⟨t,ext,rfl⟩
   have hlen2:(zu f).length=lp.length+(lr.length+1):=by rw [hlr];simp
   have hget2:((zu f).map fun x=>Sv x)[lp.length]? = some (Sv a):=by rw [hlr];simp
   have hct:=qlh lp
   have hb3:(zk lp).length+(a.length+1)≤f.1.length+3 * f.2.length+3:=by
    rw [hlr,yi] at hb2
    have:a::lr=[a]++lr:=rfl
    rw [this,yi,qf6] at hb2
    simp only [List.length_append,List.length_cons,List.length_nil] at hb2
    omega
   repeat' (first|apply qn|apply qw|apply qf|apply qh|apply qj|apply qg|(apply qr;(iterate 3 exact rfl))|(apply qd;exact rfl;apply ku;exact cAo)|(apply jc;exact rfl;exact rfl;exact cOs)|(apply zi;exact rfl;exact rfl;exact q8 (by omega) (by omega))|(apply zy;(iterate 3 exact rfl))|apply qv|(apply z8 (n:=lp.length);(iterate 5 exact rfl);exact hget2))
   refine xp ⟨rfl,?_,rfl,rfl,rfl,?_,trivial⟩ rfl
   ·exact (congrArg (fun l:Bytes=>Sv l) (by rw [yi,qf6];simp):Sv (((zq pre++zk lp)++a)++[10])=Sv (zq pre++zk (lp++[a])))
   ·exact qdf lp a
end Go.Proofs.YtmoklbacdkmkaaaGreatDoor
namespace Go.Av
open Go Go.RowKit
@[reducible] def qtp (K : Act → World → Prop) : Exit → Act → World → Prop
 | .normal,a,w=>K a w
 | _,_,_=>False
structure AZ (E:Env) (N:Nat) (ops:Array Oper) (fuel:Nat) (listed:Array Bool) (K:AS→Prop) (s:AS):Prop where
 run:∀ (B0:Nat) (w0:World) (G:Gh) (a:Act) (w:World),E.L B0 w0→Inv B0 w0 N G s a w→∀ K':Act→World→Prop,(∀ G' s' a' w',G.le G'→Inv B0 w0 N G' s' a' w'→K s'→K' a' w')→wpAnyIn (fw none) 0 E.P .any ops (qtp K') fuel listed a w
structure AY (E:Env) (N:Nat) (o:Oper) (s:AS) (r:AV):Prop where
 run:∀ (B0:Nat) (w0:World) (G:Gh) (a:Act) (w:World),Inv B0 w0 N G s a w→∃ v,(∀ w',(execOp a.eval o).run E.P w' = .ok (.value v) w')∧(∀ w',o.about E.P w' a.eval=none)∧Rel G r v
section
variable {E : Env} {N : Nat} {ops : Array Oper} {K : AS → Prop} {s : AS} {fuel : Nat} {listed : Array Bool}
theorem qka {id:Nat} {Q:Exit→AS→Prop} {n:Nat} (hm:E.P.follows .mixedOrders=true) (hn:ops.size=n) (h:AZ E N ops n (Array.replicate n false) (Q .normal) s):AWp E none N (.region id ops true) Q s:=by
 subst hn
 refine⟨fun B0 w0 G a w hL hI=>?_⟩
 have hBl:Below w.heap.size w { w with drawn:=w.drawn+1 }:=⟨rfl,rfl,rfl,Nat.le_refl _,fun _ _=>rfl⟩
 have hI2:Inv B0 w0 N G s a { w with drawn:=w.drawn+1 }:=⟨hI.agree.fresh hBl,hI.defers,hI.size,hI.tmps⟩
 have:=h.run B0 w0 G a _ hL hI2 (fun a' w'=>∃ (G':Gh) (s':AS),G.le G'∧Inv B0 w0 N G' s' a' w'∧Q .normal s') fun G' s' a' w' hG hI' hk=>⟨G',s',hG,hI',hk⟩
 refine wpIn_mono (wpIn_region_any hm this) fun e a' w' hq=>?_
 cases e with
 |normal=>exact hq
 | _=>exact hq.elim
theorem qdc (hr:Region.ready .any ops listed=[]) (h:K s):AZ E N ops fuel listed K s:=
 ⟨fun B0 w0 G a w hL hI K' hK=>wpAnyIn_done hr (hK G s a w (.refl G) hI h) fuel⟩
theorem yw (i:Nat) {oi:Oper} {r:AV} (hi:ops[i]? = some oi) (hs:Region.noSelect ops=true) (hf:Region.free .any ops listed i=true) (hr:(Region.ready .any ops listed).contains i=true) (hg:oi.guard=none) (hy:AY E N oi s r)
  (h:AZ E N ops fuel (listed.setIfInBounds i true) K (s.put oi.dst r)):AZ E N ops (fuel+1) listed K s:=by
 refine⟨fun B0 w0 G a w hL hI K' hK=>?_⟩
 obtain⟨v,h1,h2,h3⟩:=hy.run B0 w0 G a w hI
 have hwn:Region.wanted oi (yielded ops a.tmps)=true:=by simp [Region.wanted,hg]
 refine wpAnyIn_take (v:=v) rfl hi hs hf hr (fun c a w hq=>hq.elim) ⟨.inl ⟨hwn,h1⟩,h2⟩ (h.run B0 w0 G _ w hL (hI.put (.refl G) hI.agree oi.dst h3) K' fun G' s' a' w' hG hI' hk=>hK G' s' a' w' hG hI' hk)
theorem q3j {F:Fence} {n:Nat} {P:Program} {o:Oper} {a:Act} {w:World} {next X Y:Act→World→Prop} (h:o.wpIn F n P a w next (qtp X)):o.wpIn F n P a w next (qtp Y):=by
 unfold Oper.wpIn at *
 refine⟨h.1,?_⟩
 have h:=h.2
 generalize (o.semAt F.round a.eval).run P w=r at *
 cases r with
 |ok x w'=>
  cases x <;> simp only [Oper.uponIn] at h ⊢
  case value u=>exact h
  case skip=>exact h
  case defer d=>exact h
  case enter f args=>
   refine⟨h.1,CallsIn.mono h.2 fun e w'' he=>?_⟩
   cases e with
   |returned u=>exact he
   |panicked c=>exact he.elim
   |outgrown=>exact absurd he (by simp [LetsOut])
  case row row args=>exact h
  case round l f tmps assign body=>
   refine⟨h.1,RoundIn.mono h.2 fun e w'' he=>?_⟩
   cases e with
   |returned u=>exact he
   |panicked c=>exact he.elim
   |outgrown=>exact absurd he (by simp [LetsOut])
 |halt x w'=>
  cases x <;> simp only [Oper.uponIn] at h ⊢
  case panic u=>exact h.elim
def qye (P:Nat→Prop):List Nat→Prop
 | []=>True
 |i::r=>P i∧qye P r
theorem qv1 {P:Nat→Prop}:∀ {l:List Nat},qye P l→∀ i∈l,P i
 | [],_,_,h=>by simp at h
 |j::l,h,i,hi=>by
  rcases List.mem_cons.1 hi with rfl|hi
  ·exact h.1
  ·exact qv1 h.2 i hi
theorem w8 (rs:List Nat) (hr:Region.ready .any ops listed=rs) (hne:Nat.blt 0 rs.length=true)
  (h:qye (fun i=>∃ o,ops[i]? = some o∧AOps E none N ops [o] (AZ E N ops fuel (listed.setIfInBounds i true) K) s) rs):AZ E N ops (fuel+1) listed K s:=by
 refine⟨fun B0 w0 G a w hL hI K' hK=>wpAnyIn_all hr (fun e=>by subst e;simp at hne) fun i hi=>?_⟩
 obtain⟨o,ho,h⟩:=qv1 h i hi
 have hrun:=h.run B0 w0 G a w hL hI (qtp fun a' w'=>wpAnyIn (fw none) 0 E.P .any ops (qtp K') fuel (listed.setIfInBounds i true) a' w') fun G' s' a' w' hG hI' hk=>hk.run B0 w0 G' a' w' hL hI' K' fun G2 s2 a2 w2 hG2 hI2 hk2=>hK G2 s2 a2 w2 (hG.trans hG2) hI2 hk2
 unfold wpOpIn
 rw [ho]
 simp only [wpListIn] at hrun ⊢
 split
 ·rename_i hw
  rw [if_pos hw] at hrun
  exact q3j hrun
 ·rename_i hw
  rw [if_neg hw] at hrun
  exact hrun
variable {d : Option Tmp} {T : TypeId} {p : String} {af : Array Edge}
theorem zel {op:Op} {r:AV} (hnc:∀ c,op≠.call c) (h:∀ (G:Gh) (ρ : Operand→Value),(∀ x,Rel G (qm N s x) (ρ x))→∃ v,(∀ w',(execOp ρ ⟨d,op,T,p,af,none⟩).run E.P w' = .ok (.value v) w')∧Rel G r v):AY E N ⟨d,op,T,p,af,none⟩ s r:=
 ⟨fun B0 w0 G a w hI=>let ⟨v,h1,h2⟩:=h G a.eval hI.eval;⟨v,h1,fun w'=>by unfold Oper.about;cases op <;> first|rfl|exact absurd rfl (hnc _),h2⟩⟩
theorem qaq {x:Operand}:AY E N ⟨d,.move x,T,p,af,none⟩ s (qm N s x):=zel nofun fun G ρ hρ=>⟨ρ x,fun w'=>by simp [execOp],hρ x⟩
theorem qv7 {x:Operand}:AY E N ⟨d,.assign x,T,p,af,none⟩ s (qm N s x):=zel nofun fun G ρ hρ=>⟨ρ x,fun w'=>by simp [execOp],hρ x⟩
end
theorem quy {E:Env} {rd:Option Nat} {N:Nat} {c:Code} {Q:Exit→AS→Prop} {s:AS} (I:AS→Prop) (h:AWp E rd N c (only I) s) (hk:∀ s',I s'→Q .normal s'):AWp E rd N c Q s:=h.mono fun e s' h=>by
 cases e <;> first|exact hk _ h|exact h.elim
end Go.Av
namespace Go.Proofs.YtmoklbacdkmkaaaGreatDoor
open Go Go.Av Go.RowKit Go.Proofs Go.Pl
theorem qkr {l:Bytes}:qz l=4↔10∉l∧58∈l∧qak (ja l):=by
 unfold qz
 by_cases h10:10∈l
 ·simp [h10]
 ·rw [if_neg h10]
  constructor
  ·intro h
   split at h
   ·simp at h
   ·split at h
    ·simp at h
    ·split at h
     ·simp at h
     ·split at h
      ·rename_i hk;exact⟨h10,hk.1,hk.2⟩
      ·simp at h
  ·rintro⟨_,h58,hk⟩
   obtain⟨c,hc,hb,h35⟩:=qkq hk
   have hh:l.head? = some c:=by
    cases l with
    |nil=>simp at h58
    |cons a r=>
     unfold ja at hc
     rw [List.takeWhile_cons] at hc
     split at hc
     ·simpa using hc
     ·simp at hc
   have hmem:c∈l:=List.mem_of_head? hh
   rw [if_neg (fun h'=>hb (h' c hmem)),if_neg (by rw [hh];simpa using h35),if_neg (fun ⟨d,hd,hd'⟩=>by rw [hh] at hd;cases hd;exact hb hd'),if_pos ⟨h58,hk⟩]
theorem qx6 {s:Bytes} (h:qz s=3):s≠[]:=fun e=>by subst e;revert h;decide
theorem q64 (l:Bytes) (st:List AObj) (hl:l.length<4294967281) (h:qz l=4):qp E 255 [Sv l] st fun r st'=>r = .tu [Sv (ja l),Sv (j5 l),Bv true]∧st'=st:=by
 refine qx (qb0 _ _ _) (qq Tryz.func255 rfl (Nat.le_of_ble_eq_true rfl) ?_)
 have hc:Lib.cut l [58]=(ja l,j5 l,true):=by rw [qwi,if_pos (qkr.1 h).2.1]
 repeat' (first|apply qn|apply qf|apply qh|apply qj|apply qg|(apply zf;exact rfl;exact rfl)|(apply qr;(iterate 3 exact rfl))|(apply qd;exact rfl;apply vc;exact cAo)|apply qv|apply qt|(apply qk;exact Tryz.call165;exact qjl _ _ hl)|(apply qk;exact Tryz.call96;exact qsq _ _ _ hl))
 refine qo rfl (x5 rfl) ⟨q2m (?_:_=_),_,rfl⟩
 rw [hc]
theorem q3g (l:Bytes) (st:List AObj) (hl:l.length<4294967281) (h:qz l≠4):qp E 255 [Sv l] st fun r st'=>r = .tu [Sv [],Sv [],Bv false]∧st'=st:=by
 refine qx (qb0 _ _ _) (qq Tryz.func255 rfl (Nat.le_of_ble_eq_true rfl) ?_)
 repeat' (first|apply qn|apply qf|apply qh|apply qj|apply qg|(apply qr;(iterate 3 exact rfl))|(apply qd;exact rfl;apply ku;exact cAo)|apply qt|(apply qk;exact Tryz.call165;exact qjl _ _ hl))
 exact qo rfl (x5 rfl) ⟨rfl,_,rfl⟩
theorem q4j {fn:Func} {s:AS} {t u:Tmp} {Ta:TypeId} {o1 v1 f1 sz1:Nat} {agg1:Bool} {T1:TypeId} {cs1:List AV} {r1:AV} (hr:fn.results = #[.cell t Ta,.tmp u]) (hx1:qm fn.ntmps s (.tmp t) = .bx o1 v1 f1) (ho1:s.st[o1]? = some (.cells v1 T1 cs1)) (ht1:tyOf E.P Ta=some (sz1,agg1)) (hl1:jx sz1 agg1 f1 cs1=some r1) :
  ARes E fn s (.tu [r1,qm fn.ntmps s (.tmp u)]):=by
 refine⟨fun B0 w0 G a w hL hI=>?_⟩
 obtain⟨b,v,h1,h2,h3⟩:=qhi hI hx1 ho1 ht1 hl1
 have hu:=hI.rd u
 refine⟨.tuple #[v,a.tmps.getD u undef],?_,qf0 h3 hu⟩
 simp only [Act.eval,Array.getD_eq_getD_getElem?] at h1
 simp [results,hr,h1,asAddr,h2]
def qf7 (ls:List Bytes):AV:=.tu [fldA (zp ls).1,errN (zp ls).2]
theorem q2n (ls:List Bytes):Pure (qf7 ls):=qdi fun x hx=>by
 simp only [List.mem_cons,List.not_mem_nil,or_false] at hx
 rcases hx with rfl|rfl
 ·exact qlx fun x hx=>by
   simp only [List.mem_cons,List.not_mem_nil,or_false] at hx
   rcases hx with rfl|rfl <;> exact qs _
 ·exact qkj _
theorem qep {fn:Func} {s:AS} {t u:Tmp} {Ta:TypeId} {st loc ext new:List AObj} {k1 v1 f1 sz1:Nat} {agg1:Bool} {T1:TypeId} {cs1:List AV} {r1:AV} (hr:fn.results = #[.cell t Ta,.tmp u]) (hs:s.st=((st++loc)++ext)++new) (hx1:qm fn.ntmps s (.tmp t) = .bx (st.length+k1) v1 f1) (ho1:loc[k1]? = some (.cells v1 T1 cs1)) (ht1:tyOf E.P Ta=some (sz1,agg1)) (hl1:jx sz1 agg1 f1 cs1=some r1) :
  ARes E fn s (.tu [r1,qm fn.ntmps s (.tmp u)]):=q4j hr hx1 (by rw [hs];exact qa4 ho1) ht1 hl1
theorem qp2 {fn:Func} {s:AS} {t u:Tmp} {Ta:TypeId} {st loc:List AObj} {k1 v1 f1 sz1:Nat} {agg1:Bool} {T1:TypeId} {cs1:List AV} {r1:AV} (hr:fn.results = #[.cell t Ta,.tmp u]) (hs:s.st=st++loc) (hx1:qm fn.ntmps s (.tmp t) = .bx (st.length+k1) v1 f1) (ho1:loc[k1]? = some (.cells v1 T1 cs1)) (ht1:tyOf E.P Ta=some (sz1,agg1)) (hl1:jx sz1 agg1 f1 cs1=some r1) :
  ARes E fn s (.tu [r1,qm fn.ntmps s (.tmp u)]):=q4j hr hx1 (by rw [hs];exact jo ho1) ht1 hl1
structure LsB (ls:List Bytes):Prop where
 len:ls.length<1000000
 val:∀ s∈ls,s.length<1000000
theorem qrr:∀ (r:List Bytes),(∀ s∈r,s.length<1000000)→(r.flatMap fun s=>[10]++kp 46 (s.drop 1)).length≤1000001 * r.length
 | [],_=>by simp
 |a::r,h=>by
  have ih:=qrr r fun s hs=>h s (by simp [hs])
  have ha:=h a (by simp)
  have ht:(kp 46 (a.drop 1)).length≤a.length:=by unfold kp;split <;> simp <;> omega
  simp only [List.flatMap_cons,List.length_append,List.length_cons,List.length_nil]
  omega
theorem q9u (v:Bytes) (r:List Bytes):Lib.join (v::r.map fun s=>kp 46 (s.drop 1)) [10]=v++r.flatMap fun s=>[10]++kp 46 (s.drop 1):=by
 rw [Lib.join_cons]
 unfold Lib.joinTail
 rw [List.map_map,List.flatMap_def]
 rfl
theorem qva (xs:List Bytes) (tip:Option Nat) (sep v:Bytes) (st:List AObj) (h:Lib.join xs sep=v) (hN:xs.length≤140737488355328) (hl:v.length≤140737488355328):qp E 156 [.sl 1 (xs.map fun x=>Sv x) tip,Sv sep] st fun r st'=>r=Sv v∧st'=st:=by
 subst h
 exact q9t xs tip sep st hN hl
set_option maxHeartbeats 4000000 in
theorem qoe (ls:List Bytes) (st:List AObj) (hB:LsB ls):qp E 216 [Ss ls] st fun r st'=>r=qf7 ls∧st'=st:=by
 refine qx (q2n _) (qq Tryz.func216 rfl (Nat.le_of_ble_eq_true rfl) ?_)
 have hL:=hB.len
 have hml:(ls.map fun x=>Sv x).length=ls.length:=by simp
 cases ls with
 |nil=>
  repeat' (first|apply qn|apply qf|apply qh|apply qj|apply qg|(apply qr;(iterate 3 exact rfl))|(apply qd;exact rfl;apply cd_t;exact cRa)|(apply zw;(iterate 4 exact rfl))|(apply kg;exact rfl;exact rfl)|(apply jm;exact rfl;exact rfl)|(apply zz;(iterate 11 exact rfl))|(apply vu;(iterate 3 exact rfl))|apply qt)
  exact qo rfl (qp2 rfl rfl rfl rfl rfl rfl) ⟨rfl,_,rfl⟩
 |cons l r=>
  have hl:=hB.val l (by simp)
  by_cases h4:qz l=4
  ·have hk:=qkr.1 h4
   have htr:(kp 32 (j5 l)).length≤l.length:=by unfold kp j5;split <;> simp <;> omega
   simp only [List.length_cons] at hL
   repeat' (first|(apply x9;(iterate 6 exact rfl))|apply qn|apply qw|apply qf|apply qh|apply qj|apply qg|(apply zf;exact rfl;exact rfl)|(apply qr;(iterate 3 exact rfl))|(apply je;exact rfl)|(apply qd;exact rfl;apply qkc;exact cRa)|(apply qd;exact rfl;apply cd_f;exact cRa)|(apply zw;(iterate 4 exact rfl))|(apply jm;exact rfl;exact rfl)|(apply zy;(iterate 3 exact rfl))|(apply qgv;(iterate 4 exact rfl);(first|assumption|omega|exact Nat.succ_le_succ (Nat.zero_le _)|(simp;omega));exact rfl)|apply qv|(apply qk;exact Tryz.call255;exact q64 _ _ (by omega) h4)|(apply qk;exact Tryz.call98;exact q5p _ _ _)|(apply z8 (n:=0);(iterate 6 exact rfl)))
   refine qn0 7 (o:=st.length+1) (sz:=1) (len:=1) (cap:=1) (xs:=[Sv (kp 32 (j5 l))]) (T':=9) rfl (jo rfl) rfl rfl (by omega) (Nat.le_refl _) (by decide) (by simp [AV.cells]) rfl ?_
   have hrm:(r.map fun x=>Sv x).length=r.length:=by simp
   refine ye r (fun pre s=>(∀ x∈pre,qz x=3)∧StE [(2,.bx (st.length+0) 0 0),(4,Sv (ja l)),(7,.sl 1 (Sv (kp 32 (j5 l))::pre.map (fun s=>Sv (kp 46 (s.drop 1)))) (some (st.length+1))),(33,.sl 1 (r.map fun x=>Sv x) none),(34,Iv r.length),(35,Iv pre.length)] st [.cells 0 156 [Sv [],Sv []],.tip (pre.length+1) 1 9] s) ⟨by simp,qbj ⟨rfl,rfl,rfl,rfl,congrArg (fun n:Nat=>Iv (n:Int)) hrm,rfl,trivial⟩ (xo st _ 1 _)⟩ ?_ ?_
   ·rintro _ ⟨h3,t,ext,rfl⟩
    have hok:qry (l::r):=⟨by simp,h4,h3⟩
    have hjl:=qrr r fun s hs=>hB.val s (by simp [hs])
    have hj:=q9u (kp 32 (j5 l)) r
    have hjv:Lib.join (kp 32 (j5 l)::r.map fun s=>kp 46 (s.drop 1)) [10]=qb7 l r:=hj
    have hvl:(qb7 l r).length≤140737488355328:=by
     unfold qb7
     rw [List.length_append]
     omega
    have hmm:(Sv (kp 32 (j5 l))::r.map fun s=>Sv (kp 46 (s.drop 1)))=(kp 32 (j5 l)::r.map fun s=>kp 46 (s.drop 1)).map fun x=>Sv x:=by simp [List.map_map]
    rw [hmm]
    have hkl:(ja l).length<4294967281:=by have:=hk.2.2.2.1;omega
    have hun:zp (l::r)=if 1000<(qb7 l r).length then (([],[]),6) else ((ja l,qb7 l r),0):=if_pos hok
    by_cases hv:1000<(qb7 l r).length
    ·have hcf:ve (ja l,qb7 l r)=6:=(if_neg (by simpa using hk.2.2)).trans (if_pos hv)
     repeat' (first|apply qn|apply qf|apply qh|apply qj|(apply qr;(iterate 3 exact rfl))|(apply qd;exact rfl;apply vc;exact cAo)|apply z4)
     refine qk Tryz.call156 (qva (kp 32 (j5 l)::r.map fun s:Bytes=>kp 46 (s.drop 1)) _ _ _ _ hjv ?_ hvl) ?_
     ·simp;omega
     repeat' (first|apply qn|apply qf|apply qh|apply qj|apply qg|(apply qd;exact rfl;apply cd_t;exact cRa)|(apply wt;exact rfl;exact rfl)|(apply jm;exact rfl;exact rfl)|(apply qa3;(iterate 11 exact rfl))|(apply jl;(iterate 5 exact rfl))|(apply zz;(iterate 11 exact rfl))|(apply vu;(iterate 3 exact rfl))|apply qt|(apply qk;exact Tryz.call226;exact qjj (ja l,qb7 l r) _ hkl (by rw [hcf];decide)))
     refine qo rfl (qep rfl rfl rfl rfl rfl rfl) ⟨?_,x2 _ _ _ _⟩
     unfold qf7
     rw [hun,if_pos hv]
     exact congrArg (fun n:Int=>AV.tu [fldA ([],[]),.ifc 76 (Iv n)]) hcf
    ·have hcf:ve (ja l,qb7 l r)=0:=(if_neg (by simpa using hk.2.2)).trans (if_neg hv)
     repeat' (first|apply qn|apply qf|apply qh|apply qj|apply qg|(apply qr;(iterate 3 exact rfl))|(apply qd;exact rfl;apply vc;exact cAo)|(apply qd;exact rfl;apply cd_f;exact cRa)|(apply vt;exact rfl;exact rfl)|(apply jm;exact rfl;exact rfl)|(apply qa3;(iterate 11 exact rfl))|(apply jl;(iterate 5 exact rfl))|(apply zz;(iterate 11 exact rfl))|(apply vu;(iterate 3 exact rfl))|apply qv|apply z4|apply qt|(refine qk Tryz.call156 (qva (kp 32 (j5 l)::r.map fun s:Bytes=>kp 46 (s.drop 1)) _ _ _ _ hjv ?_ hvl) ?_;(simp;omega))|(apply qk;exact Tryz.call226;exact qji (ja l,qb7 l r) _ hkl hcf))
     refine qo rfl (qep rfl rfl rfl rfl rfl rfl) ⟨?_,x2 _ _ _ _⟩
     unfold qf7
     rw [hun,if_neg hv]
     rfl
   ·rintro pre a rest _ hr ⟨h3,t,ext,rfl⟩
    have hrlen:r.length=pre.length+(rest.length+1):=by rw [hr];simp
    have hget:(r.map fun x=>Sv x)[pre.length]? = some (Sv a):=by rw [hr];simp
    have ha:=hB.val a (by rw [hr];simp)
    by_cases hka:qz a=3
    ·have hpos:1≤a.length:=List.length_pos_iff.2 (qx6 hka)
     repeat' (first|apply qn|apply qw|apply qf|apply qh|apply qj|apply qg|(apply qr;(iterate 3 exact rfl))|(apply qd;exact rfl;apply ku;exact cAo)|(apply qd;exact rfl;apply vc;exact cAo)|(apply zi;exact rfl;exact rfl;exact q8 (by omega) (by omega))|(apply zy;(iterate 3 exact rfl))|(apply qfn;(iterate 3 exact rfl);exact cAs)|(apply kw;(iterate 9 exact rfl))|apply qv|(apply qk;exact Tryz.call165;exact qjl _ _ (by omega))|(apply qk;exact Tryz.call98;exact q5p _ _ _)|(apply z8 (n:=pre.length);(iterate 5 exact rfl);exact hget)|(apply qap (n:=pre.length+1) (m:=1) (sz:=1) (bytes:=16);(iterate 4 exact rfl);simp;exact rfl;exact rfl;exact⟨⟨_,_,rfl,rfl,rfl,rfl,rfl⟩⟩;exact rfl;exact rfl;(unfold maxLen;omega);omega;exact rfl))
     refine⟨fun x hx=>?_,xp ⟨rfl,rfl,?_,rfl,rfl,?_,trivial⟩ ?_⟩
     ·rcases List.mem_append.1 hx with hx|hx
      ·exact h3 x hx
      ·simp at hx;subst hx;exact hka
     ·exact qjx _ (fun s:Bytes=>Sv (kp 46 (s.drop 1))) pre a _ rfl
     ·exact qdf pre a
     ·rw [yt pre a];rfl
    ·skip
     repeat' (first|apply qn|apply qw|apply qf|apply qh|apply qj|apply qg|(apply qr;(iterate 3 exact rfl))|(apply qd;exact rfl;apply ku;exact cAo)|(apply kg;exact rfl;exact rfl)|(apply zy;(iterate 3 exact rfl))|(apply qa3;(iterate 11 exact rfl))|(apply vu;(iterate 3 exact rfl))|apply qv|apply qt|(apply qk;exact Tryz.call165;exact qjl _ _ (by omega))|(apply z8 (n:=pre.length);(iterate 5 exact rfl);exact hget))
     have hno:zp (l::r)=(([],[]),2):=if_neg fun h=>hka (h.2.2 a (by rw [hr];simp))
     refine qo rfl (qep rfl rfl rfl rfl rfl rfl) ⟨?_,x2 _ _ _ _⟩
     unfold qf7
     rw [hno]
     rfl
  ·have hno:zp (l::r)=(([],[]),2):=if_neg fun h=>h4 h.2.1
   simp only [List.length_cons] at hL
   repeat' (first|apply qn|apply qf|apply qh|apply qj|apply qg|(apply zf;exact rfl;exact rfl)|(apply qr;(iterate 3 exact rfl))|(apply je;exact rfl)|(apply qd;exact rfl;apply qkd;exact cRa)|(apply qd;exact rfl;apply cd_f;exact cRa)|(apply zw;(iterate 4 exact rfl))|(apply kg;exact rfl;exact rfl)|(apply jm;exact rfl;exact rfl)|(apply zy;(iterate 3 exact rfl))|(apply zz;(iterate 11 exact rfl))|(apply vu;(iterate 3 exact rfl))|apply qv|apply qt|(apply qk;exact Tryz.call255;exact q3g _ _ (by omega) h4)|(apply z8 (n:=0);(iterate 6 exact rfl)))
   refine qo rfl (qp2 rfl rfl rfl rfl rfl rfl) ⟨?_,_,rfl⟩
   unfold qf7
   rw [hno]
   rfl
theorem zam (l:Bytes) (st:List AObj) (hl:l.length<4294967281) (h:qz l=4):qp E 179 [Sv l] st fun r st'=>r = .tu [Sv (ja l),Sv (j5 l),Bv true]∧st'=st:=by
 have:=q1y l st hl
 have e:qe2 l=(ja l,j5 l,true):=if_pos (qkr.1 h)
 rw [e] at this
 exact this
theorem qvb {s:Bytes} (h:qz s=3):2≤s.length∧10∉s:=by
 have h10:10∉s:=fun h'=>by unfold qz at h;rw [if_pos h'] at h;simp at h
 refine⟨?_,h10⟩
 unfold qz at h
 rw [if_neg h10] at h
 split at h
 ·simp at h
 ·rename_i hb
  split at h
  ·simp at h
  ·split at h
   ·rename_i hbl
    obtain⟨c,hc,hcb⟩:=hbl
    match s,hc with
    | [a],hc=>
     simp at hc
     subst hc
     exact absurd (by simpa using hcb) hb
    |a::b::r,_=>simp
   ·split at h <;> simp at h
def qb4 (ls:List Bytes):AV:=.tu [fldA (zp ls).1,Iv (zp ls).2]
theorem qt3 (ls:List Bytes):Pure (qb4 ls):=qdi fun x hx=>by
 simp only [List.mem_cons,List.not_mem_nil,or_false] at hx
 rcases hx with rfl|rfl
 ·exact qlx fun x hx=>by
   simp only [List.mem_cons,List.not_mem_nil,or_false] at hx
   rcases hx with rfl|rfl <;> exact qs _
 ·exact qs _
def accU (l:Bytes) (pre:List Bytes):Bytes:=kp 32 (j5 l)++pre.flatMap fun s=>[10]++kp 46 (s.drop 1)
theorem q76 (l:Bytes) (pre:List Bytes) (a:Bytes):accU l (pre++[a])=(accU l pre++[10])++kp 46 (a.drop 1):=by
 unfold accU
 rw [List.flatMap_append]
 simp
theorem zbz (l:Bytes) (pre:List Bytes) (h:∀ s∈pre,s.length<1000000):(accU l pre).length≤l.length+1000001 * pre.length:=by
 have htr:(kp 32 (j5 l)).length≤l.length:=by unfold kp j5;split <;> simp <;> omega
 have:=qrr pre h
 unfold accU
 rw [List.length_append]
 omega
theorem zev (c:UInt8):((c.toNat:Nat):Int)=46↔c=46:=u8i c 46 (by omega)
theorem qri {α : Type} {P : α→Prop} {pre:List α} {a : α} (h:∀ x∈pre,P x) (ha:P a):∀ x∈pre++[a],P x:=fun x hx=>by
 rcases List.mem_append.1 hx with hx|hx
 ·exact h x hx
 ·simp at hx;subst hx;exact ha
end Go.Proofs.YtmoklbacdkmkaaaGreatDoor
namespace Go.Pl
open Go Go.Proofs
structure LnV where
 no:Nat
 at':Nat
 text:Bytes
 ended : Bool
def vi (k a:Nat) (l:Bytes):List LnV:=if h:l=[] then [] else⟨k,a,upto 10 l,decide (10∈l)⟩::vi (k+1) (a+(upto 10 l).length+1) (past 10 l)
 termination_by l.length
 decreasing_by exact wy h
def lns (l:Bytes):List LnV:=vi 0 0 l
theorem qar (k a:Nat):vi k a []=[]:=by unfold vi;simp
theorem qat {k a:Nat} {l:Bytes} (h:l≠[]):vi k a l=⟨k,a,upto 10 l,decide (10∈l)⟩::vi (k+1) (a+(upto 10 l).length+1) (past 10 l):=by
 conv=>lhs;unfold vi
 rw [dif_neg h]
def whole (l:Bytes):Prop:=l=[]∨l.getLast? = some 10
theorem q72 {l:Bytes} (h:whole l) (hne:l≠[]):10∈l∧whole (past 10 l):=by
 have hl:l.getLast? = some 10:=h.resolve_left hne
 have h10:10∈l:=List.mem_of_getLast? hl
 refine⟨h10,?_⟩
 by_cases hp:past 10 l=[]
 ·exact .inl hp
 ·refine .inr ?_
  have e:=wg h10
  rw [e] at hl
  rw [List.getLast?_append,List.getLast?_cons] at hl
  cases hg:(past 10 l).getLast? with
  |none=>exact absurd (List.getLast?_eq_none_iff.1 hg) hp
  |some c=>rw [hg] at hl;simpa using hl
theorem qvc:∀ (n:Nat) (d x:Bytes) (k a:Nat),d.length≤n→whole d→vi k a (d++x)=vi k a d++vi (k+(vi k a d).length) (a+d.length) x
 |n,d,x,k,a,hn,hw=>by
  by_cases hd:d=[]
  ·subst hd
   simp [qar]
  ·obtain⟨h10,hw'⟩:=q72 hw hd
   have e:=wg h10
   have hlt:=wy (c:=10) hd
   cases n with
   |zero=>omega
   |succ n=>
    have e2:d++x=upto 10 d++10::(past 10 d++x):=(congrArg (· ++ x) e).trans (by simp)
    have hu:upto 10 (d++x)=upto 10 d:=by rw [e2];exact v8 _ (qal 10 d)
    have hp:past 10 (d++x)=past 10 d++x:=by rw [e2];exact xu _ (qal 10 d)
    have hdl:d.length=(upto 10 d).length+1+(past 10 d).length:=by
     have:=congrArg List.length e
     simp at this
     omega
    rw [qat (l:=d++x) (by simp [hd]),qat hd,hu,hp,qvc n (past 10 d) x _ _ (by omega) hw']
    have h1:10∈d++x:=by simp [h10]
    simp only [h1,h10,List.cons_append,List.length_cons]
    congr 2
    have e3:∀ m:Nat,k+1+m=k+(m+1):=fun m=>by omega
    rw [e3]
    congr 1
    omega
theorem zf2 {c:Bytes} (k a:Nat) (h:10∉c):vi k a (c++[10])=[⟨k,a,c,true⟩]:=by
 rw [qat (by simp),v8 [] h,xu [] h,qar]
 simp
theorem zc8 {c:Bytes} (k a:Nat) (h:10∉c) (hne:c≠[]):vi k a c=[⟨k,a,c,false⟩]:=by
 rw [qat hne,w7 h]
 have:past 10 c=[]:=by
  unfold past
  rw [w7 h]
  simp
 rw [this,qar]
 simp [h]
theorem qcw:∀ (n:Nat) (l:Bytes) (k a:Nat),l.length≤n→(vi k a l).length≤l.length
 |n,l,k,a,hn=>by
  by_cases h:l=[]
  ·subst h;simp [qar]
  ·have hlt:=wy (c:=10) h
   cases n with
   |zero=>omega
   |succ n=>
    rw [qat h,List.length_cons]
    have:=qcw n (past 10 l) (k+1) (a+(upto 10 l).length+1) (by omega)
    omega
theorem qw2:∀ (n:Nat) (l:Bytes) (k a:Nat),l.length≤n→(vi k a l).map (fun x=>(x.text,x.ended))=zr l
 |n,l,k,a,hn=>by
  by_cases h:l=[]
  ·subst h;simp [qar,v6]
  ·have hlt:=wy (c:=10) h
   cases n with
   |zero=>omega
   |succ n=>rw [qat h,wv h,List.map_cons,qw2 n _ _ _ (by omega)]
end Go.Pl
namespace Go.Proofs.YtmoklbacdkmkaaaGreatDoor
open Go Go.Av Go.RowKit Go.Proofs Go.Pl
@[reducible] def lnA (x : LnV) : AV := .ag [Iv x.no, Iv x.at', Sv x.text, Bv x.ended]
@[reducible] def lnsA (xs : List LnV) : AV := .sl 4 (xs.map lnA) none
theorem zdq (xs:List LnV):Pure (lnsA xs):=qco fun x hx=>by
 simp only [List.mem_map] at hx
 obtain⟨f,_,rfl⟩:=hx
 intro y hy
 simp [AV.cells] at hy
 rcases hy with rfl|rfl|rfl|rfl <;> exact qs _
set_option maxHeartbeats 4000000 in
theorem qir (l:Bytes) (st:List AObj) (hl:l.length<100000000):qp E 61 [Sv l] st fun r st'=>r=lnsA (lns l)∧st'=st:=by
 refine qx (zdq _) (qq Tryz.func61 rfl (Nat.le_of_ble_eq_true rfl) ?_)
 repeat' (first|apply qn|apply qw|apply qf|apply qh|apply qg)
 refine q6a (i:=3) (sz:=4) (T':=122) rfl ?_
 refine ye l (fun pre s=>∃ d c,pre=d++c∧whole d∧10∉c∧StE [(0,Sv l),(3,.sl 4 ((lns d).map lnA) (some (st.length+0))),(4,Iv d.length),(5,Iv pre.length)] st [.tip (lns d).length 4 122] s) ⟨[],[],rfl,.inl rfl,by simp,qbj ⟨rfl,?_,rfl,rfl,trivial⟩ ?_⟩ ?_ ?_
 ·rw [show lns []=[] from qar 0 0];simp;rfl
 ·rw [show lns []=[] from qar 0 0];show (st++[])++[AObj.tip 0 4 _]=_;simp
 ·rintro _ ⟨d,c,hdc,hw,hc,t,ext,rfl⟩
  have hll:l.length=d.length+c.length:=by rw [hdc];simp
  have hcnt:=qcw _ d 0 0 (Nat.le_refl _)
  have hcnt':(lns d).length≤d.length:=hcnt
  have hml:((lns d).map lnA).length=(lns d).length:=by simp
  have happ:lns l=lns d++vi (lns d).length d.length c:=by
   unfold lns
   rw [hdc,qvc _ d c 0 0 (Nat.le_refl _) hw]
   simp
  have hfrom:l.drop d.length=c:=by rw [hdc];simp
  repeat' (first|apply qn|apply qf|apply qh|apply qj|apply qg|(apply qr;(iterate 3 exact rfl))|(apply qd;exact rfl;apply vc;exact cAo)|(apply qd;exact rfl;apply cd_d <;> intro h)|(apply zn;(iterate 3 exact rfl))|(apply zw;(iterate 4 exact rfl))|(apply qfn;(iterate 3 exact rfl);exact cAs)|(apply vu;(iterate 3 exact rfl))|(apply kw;(iterate 9 exact rfl))|apply qv|apply z4|apply qt|(apply qap (n:=(lns d).length) (m:=1) (sz:=4) (bytes:=40);(iterate 4 exact rfl);exact hml;exact rfl;exact rfl;exact⟨⟨_,_,rfl,rfl,rfl,rfl,rfl⟩⟩;exact rfl;exact rfl;(unfold maxLen;omega);omega;exact rfl))
  ·have hne:c≠[]:=fun e=>by subst e;simp at hll;omega
   have e:AV.sl 4 ((lns d).map lnA++[AV.ag [Iv ((lns d).map lnA).length,Iv d.length,Sv (l.drop d.length),Bv false]]) none=AV.sl 4 ((lns l).map lnA) none:=by
    rw [happ,zc8 _ _ hc hne,hml,hfrom,List.map_append]
    rfl
   exact qo rfl (qsj rfl rfl) ⟨e,x2 _ _ _ _⟩
  ·have hce:c=[]:=List.length_eq_zero_iff.1 (by omega)
   refine qo rfl (qsj rfl rfl) ⟨?_,x2 _ _ _ _⟩
   rw [happ,hce,qar,List.append_nil]
 ·rintro pre a rest _ hr ⟨d,c,hdc,hw,hc,t,ext,rfl⟩
  have hlen:l.length=pre.length+(rest.length+1):=by rw [hr];simp
  have hpl:pre.length=d.length+c.length:=by rw [hdc];simp
  have hget:l.getD pre.length 0=a:=by rw [hr];simp
  have hcnt:=qcw _ d 0 0 (Nat.le_refl _)
  have hcnt':(lns d).length≤d.length:=hcnt
  have hml:((lns d).map lnA).length=(lns d).length:=by simp
  have hsp:(l.take pre.length).drop d.length=c:=by rw [hr,List.take_left' rfl,hdc,List.drop_left' rfl]
  repeat' (first|apply qn|apply qw|apply qf|apply qh|apply qj|apply qg|(apply qr;(iterate 3 exact rfl))|(apply qd;exact rfl;apply ku;exact cAo)|(apply qd;exact rfl;apply cd_d <;> intro h)|(apply zn;(iterate 3 exact rfl))|(apply zw;(iterate 4 exact rfl))|(apply zi;exact rfl;exact rfl;exact q8 (by omega) (by omega))|(apply v4;(iterate 3 exact rfl);exact cAs)|(apply qhq;(iterate 4 exact rfl);exact cAs;exact cAs)|(apply vu;(iterate 3 exact rfl))|(apply kw;(iterate 9 exact rfl))|apply qv|(apply qap (n:=(lns d).length) (m:=1) (sz:=4) (bytes:=40);(iterate 4 exact rfl);exact hml;exact rfl;exact rfl;exact⟨⟨_,_,rfl,rfl,rfl,rfl,rfl⟩⟩;exact rfl;exact rfl;(unfold maxLen;omega);omega;exact rfl))
  ·have ha:a=10:=by have h:=(qbf _).1 (by assumption:((l.getD pre.length 0).toNat:Int)=10);rw [hget] at h;exact h
   have happ:lns (d++(c++[10]))=lns d++[⟨(lns d).length,d.length,c,true⟩]:=by
    unfold lns
    rw [qvc _ d (c++[10]) 0 0 (Nat.le_refl _) hw,zf2 _ _ hc]
    simp
   refine⟨d++(c++[10]),[],by rw [ha,hdc];simp,.inr (by simp),by simp,xp ⟨rfl,?_,?_,qdf pre a,trivial⟩ ?_⟩
   ·have e:AV.sl 4 ((lns d).map lnA++[AV.ag [Iv ((lns d).map lnA).length,Iv d.length,Sv ((l.take pre.length).drop d.length),Bv true]]) (some (st.length+0))=AV.sl 4 ((lns (d++(c++[10]))).map lnA) (some (st.length+0)):=by
     rw [happ,hml,hsp,List.map_append]
     rfl
    exact e
   ·have e:Iv ((pre.length:Int)+1)=Iv ((d++(c++[10])).length:Nat):=by
     have:(d++(c++[10])).length=pre.length+1:=by simp;omega
     rw [this]
     rfl
    exact e
   ·rw [happ,yt];rfl
  ·have ha:a≠10:=fun e=>absurd (by rw [hget];exact (qbf _).2 e:((l.getD pre.length 0).toNat:Int)=10) (by assumption)
   exact⟨d,c++[a],by rw [hdc];simp,hw,by simp [hc,Ne.symm ha],xp ⟨rfl,rfl,rfl,qdf pre a,trivial⟩ rfl⟩
end Go.Proofs.YtmoklbacdkmkaaaGreatDoor
namespace Go.Pl
open Go Go.Proofs
def indF (by':Bytes) (ls:List (Bytes×Bool)):Bytes:=ls.flatMap fun x=>by'++x.1++xf x.2
def qaf (by' l:Bytes):Bytes:=indF by' (zr l)
theorem qmo (by':Bytes) (a b:List (Bytes×Bool)):indF by' (a++b)=indF by' a++indF by' b:=by simp [indF]
theorem qmq (by':Bytes) (x:Bytes×Bool):indF by' [x]=by'++x.1++xf x.2:=by simp [indF]
def lsum (ls:List (Bytes×Bool)):Nat:=(ls.map fun x=>x.1.length+(xf x.2).length).sum
theorem qft:∀ (n:Nat) (l:Bytes),l.length≤n→lsum (zr l)=l.length∧(zr l).length≤l.length
 |n,l,hn=>by
  by_cases h:l=[]
  ·subst h;simp [v6,lsum]
  ·have hlt:=wy (c:=10) h
   cases n with
   |zero=>omega
   |succ n=>
    obtain⟨h1,h2⟩:=qft n (past 10 l) (by omega)
    rw [wv h]
    unfold lsum at h1 ⊢
    simp only [List.map_cons,List.sum_cons,List.length_cons]
    rw [h1]
    have hp:=km 10 l
    have hu:=ko 10 l
    by_cases h10:10∈l
    ·have:=qem h10
     simp [h10,xf]
     omega
    ·have hu2:(upto 10 l).length=l.length:=by rw [w7 h10]
     have hpos:=List.length_pos_iff.2 h
     simp [h10,xf]
     omega
theorem qmp (by':Bytes):∀ (ls:List (Bytes×Bool)),(indF by' ls).length=lsum ls+by'.length * ls.length
 | []=>by simp [indF,lsum]
 |x::r=>by
  have ih:=qmp by' r
  simp only [indF,lsum,List.flatMap_cons,List.length_append,List.map_cons,List.sum_cons,List.length_cons] at ih ⊢
  rw [ih,Nat.mul_add]
  omega
theorem q0x (a b:List (Bytes×Bool)):lsum (a++b)=lsum a+lsum b:=by simp [lsum]
end Go.Pl
namespace Go.Proofs.YtmoklbacdkmkaaaGreatDoor
open Go Go.Av Go.RowKit Go.Proofs Go.Pl
theorem zba (text:List UInt8) (st loc:List AObj) (n:Nat) (hn:loc.length=n):qp E 100 [Sv text] (st++loc) fun r st1=>r = .fn (.func 163) [] [.bx (st.length+n) 0 0]∧st1=st++(loc++[.cells 0 9 [Sv text]]):=
 qvo text (st++loc) _ (st.length+n) (by simp [hn]) (by rw [List.append_assoc])
theorem q9s (b sep:Bytes) (st:List AObj) (hl:b.length≤140737488355328):qp E 156 [.sl 1 [Sv b] none,Sv sep] st fun r st'=>r=Sv b∧st'=st:=
 qva [b] none sep b st (by simp [Lib.join,List.intercalate]) (by simp) hl
theorem zhs {st a b ext:List AObj} {m:Nat} (h:((st++a)++ext).length=m) (e:b.length=a.length):((st++b)++ext).length=m:=by
 simp only [List.length_append] at h ⊢
 omega
set_option maxHeartbeats 2000000 in
theorem zc2 (text by':Bytes) (st:List AObj) (hl:text.length<100000000) (hb:by'.length<1000):qp E 138 [Sv text,.sl 1 [Sv by'] none] st fun r st'=>r=Sv (qaf by' text)∧st'=st:=by
 refine qx (qs _) (qq Tryz.func138 rfl (Nat.le_of_ble_eq_true rfl) ?_)
 obtain⟨hsum,hcnt⟩:=qft _ text (Nat.le_refl _)
 repeat' (first|(apply qha;exact rfl)|apply qn|apply qw|apply qf|apply qh|apply qj|apply qg|(apply jm;exact rfl;exact rfl)|(apply zz;(iterate 11 exact rfl))|(apply qk;exact Tryz.call156;exact q9s _ _ _ (by omega))|(refine qk Tryz.call100 (zba _ _ _ _ rfl) ?_))
 refine quz (st:=st) text rfl rfl (by omega) (fun k rest l=>∃ q don,(q = .v (.pointer none)∨q = .bx (st.length+0) 0 0)∧zr text=don++zr rest∧l=[bldO 0 q (indF by' don) (st.length+1),.tip (indF by' don).length 1 5,.cells 0 9 [Sv by'],.cells 0 9 [Sv text]]) (fun _ _=>False)
  ⟨_,[],.inl rfl,rfl,rfl⟩ (fun k rest l ⟨q,don,_,_,e⟩=>by subst e;exact⟨rfl,rfl⟩) (fun _ _ h=>h.elim) ?_ ?_ (fun _ _ _ h=>h.elim)
 ·rintro F own rd k rest _ ext m hF ⟨q,don,hq,hd,rfl⟩ hne hle hm1 hm2
  have hmem:zr rest=(upto 10 rest,decide (10∈rest))::zr (past 10 rest):=wv hne
  have hu:=ko 10 rest
  have hlen:=qmp by' (don++[(upto 10 rest,decide (10∈rest))])
  have he:zr text=(don++[(upto 10 rest,decide (10∈rest))])++zr (past 10 rest):=by rw [hd,hmem];simp
  have hs2:lsum (don++[(upto 10 rest,decide (10∈rest))])+lsum (zr (past 10 rest))=text.length:=by rw [← q0x,← he];exact hsum
  have hc2:(don++[(upto 10 rest,decide (10∈rest))]).length+(zr (past 10 rest)).length≤text.length:=by rw [← List.length_append,← he];exact hcnt
  have hm:by'.length * (don++[(upto 10 rest,decide (10∈rest))]).length≤1000 * 100000000:=Nat.mul_le_mul (by omega) (by omega)
  rw [qmo,qmq] at hlen
  simp only [List.length_append] at hlen hm hc2
  repeat' (first|(apply q2t;exact rfl;assumption;exact rfl)|(apply qbl;exact rfl;assumption;(iterate 10 exact rfl))|apply qf|apply qh)
  refine⟨_,rfl,rfl,?_⟩
  repeat' (first|apply qn|apply qw|apply qf|apply qh|(apply qd;exact rfl;apply cd_d <;> intro h)|(apply jc;exact rfl;exact rfl;exact cOs)|(apply zj;(iterate 3 exact rfl))|(apply qni;(iterate 5 exact rfl))|apply qv|(apply qcj;exact rfl;exact zhs hm2 rfl;(iterate 4 exact rfl))|(refine qk Tryz.call136 (qie st _ _ _ _ 0 1 0 _ _ _ rfl rfl ?_ ?_ rfl) ?_;(first|exact hq|exact .inr rfl);(simp only [List.length_append,List.length_cons,List.length_nil];omega)))
  all_goals
   have hx:indF by' (don++[(upto 10 rest,decide (10∈rest))])=(indF by' don++(by'++upto 10 rest))++xf (decide (10∈rest)):=by
    rw [qmo,qmq];simp
   refine⟨[bldO 0 (.bx (st.length+0) 0 0) (indF by' (don++[(upto 10 rest,decide (10∈rest))])) (st.length+1),.tip (indF by' (don++[(upto 10 rest,decide (10∈rest))])).length 1 5,.cells 0 9 [Sv by'],.cells 0 9 [Sv text]],ext,[.cells 0 181 (qea k text rest).cells],?_,_,_,.inr rfl,he,rfl⟩
  ·have h10:10∈rest:=by simp_all
   rw [hx,show xf (decide (10∈rest))=[10] by simp [h10,xf]]
   rfl
  ·have h10:10∉rest:=by simp_all
   have hx2:indF by' (don++[(upto 10 rest,decide (10∈rest))])=indF by' don++(by'++upto 10 rest):=by
    rw [hx];simp [h10,xf]
   rw [hx2]
   rfl
 ·rintro k _ ext ⟨q,don,hq,hd,rfl⟩
  repeat' (first|apply qn|apply qf|apply qh|apply qg|apply qt|(refine qk Tryz.call139 (qhc st _ _ _ _ 0 1 0 _ _ rfl rfl rfl) ?_))
  refine qxz (k:=4) rfl rfl rfl (qo rfl (q5 rfl) ⟨congrArg (fun l:Bytes=>Sv l) (?_:_=qaf by' text),x2 _ _ _ _⟩)
  rw [v6,List.append_nil] at hd
  unfold qaf
  rw [hd]
end Go.Proofs.YtmoklbacdkmkaaaGreatDoor
namespace Go.Pl
open Go Go.Proofs
def wb (x:LnV):Bytes×Bool:=(x.text,x.ended)
theorem qoo (l:Bytes):(lns l).map wb=zr l:=qw2 _ l 0 0 (Nat.le_refl _)
end Go.Pl
namespace Go.Proofs.YtmoklbacdkmkaaaGreatDoor
open Go Go.Av Go.RowKit Go.Proofs Go.Pl
set_option maxHeartbeats 2000000 in
theorem q3u (text by':Bytes) (st:List AObj) (hl:text.length<100000000) (hb:by'.length<1000):qp E 183 [Sv text,Sv by'] st fun r st'=>r=Sv (qaf by' text)∧st'=st:=by
 refine qx (qs _) (qq Tryz.func183 rfl (Nat.le_of_ble_eq_true rfl) ?_)
 obtain⟨hsum,hcnt⟩:=qft _ text (Nat.le_refl _)
 have hp:=qoo text
 have hpl:(lns text).length=(zr text).length:=by rw [← hp,List.length_map]
 have hml:((lns text).map lnA).length=(lns text).length:=by simp
 repeat' (first|apply qn|apply qw|apply qf|apply qh|apply qj|apply qg|(apply zw;(iterate 4 exact rfl))|(apply qk;exact Tryz.call61;exact qir _ _ hl))
 refine ye (lns text) (fun pre s=>StE [(1,Sv by'),(5,Sv (indF by' (pre.map wb))),(9,lnsA (lns text)),(10,Iv (lns text).length),(11,Iv pre.length)] st [] s) (qbj ⟨rfl,rfl,rfl,congrArg (fun n:Nat=>Iv (n:Int)) hml,rfl,trivial⟩ rfl) ?_ ?_
 ·rintro _ ⟨t,ext,rfl⟩
  repeat' (first|apply qn|apply qf|apply qh|apply qj|apply qg|(apply qr;(iterate 3 exact rfl))|(apply qd;exact rfl;apply vc;exact cAo)|apply z4|apply qt)
  refine qo rfl (q5 rfl) ⟨congrArg (fun l:Bytes=>Sv l) (?_:indF by' ((lns text).map wb)=_),x2 _ _ _ _⟩
  rw [hp]
  rfl
 ·rintro pre a rest _ hr ⟨t,ext,rfl⟩
  have hlen:(lns text).length=pre.length+(rest.length+1):=by rw [hr];simp
  have hget:((lns text).map lnA)[pre.length]? = some (lnA a):=by rw [hr];simp
  have he:zr text=(pre.map wb++[wb a])++rest.map wb:=by rw [← hp,hr];simp
  have hs2:lsum (pre.map wb++[wb a])+lsum (rest.map wb)=text.length:=by rw [← q0x,← he];exact hsum
  have hil:=qmp by' (pre.map wb++[wb a])
  have hm:by'.length * (pre.map wb++[wb a]).length≤1000 * 100000000:=Nat.mul_le_mul (by omega) (by rw [List.length_append,List.length_map];simp;omega)
  rw [qmo,qmq] at hil
  have e1:(wb a).1=a.text:=rfl
  have e2:(wb a).2=a.ended:=rfl
  rw [e1,e2] at hil
  simp only [List.length_append] at hil hm
  have hx:indF by' ((pre++[a]).map wb)=((indF by' (pre.map wb)++by')++a.text)++xf a.ended:=by
   rw [List.map_append,List.map_singleton,qmo,qmq,e1,e2];simp
  cases hae:a.ended
  ·have hx2:indF by' ((pre++[a]).map wb)=(indF by' (pre.map wb)++by')++a.text:=by rw [hx,hae];simp [xf]
   rw [hae] at hil
   repeat' (first|apply qn|apply qw|apply qf|apply qh|apply qj|apply qg|(apply qr;(iterate 3 exact rfl))|(apply qd;exact rfl;apply ku;exact cAo)|(apply qd;exact rfl;apply cd_f;exact cRa)|(apply jc;exact rfl;exact rfl;exact cOs)|(apply zi;exact rfl;exact rfl;exact q8 (by omega) (by omega))|(apply jm;exact rfl;exact rfl)|(apply zj;(iterate 3 exact rfl))|(apply zy;(iterate 3 exact rfl))|(apply jl;(iterate 5 exact rfl))|(apply zz;(iterate 11 exact rfl))|apply qv|(apply z8 (n:=pre.length);(iterate 5 exact rfl);exact hget))
   exact xp ⟨rfl,congrArg (fun l:Bytes=>Sv l) hx2.symm,rfl,rfl,qdf pre a,trivial⟩ rfl
  ·have hx2:indF by' ((pre++[a]).map wb)=((indF by' (pre.map wb)++by')++a.text)++[10]:=by rw [hx,hae];simp [xf]
   rw [hae] at hil
   have hle:(xf true).length=1:=rfl
   repeat' (first|apply qn|apply qw|apply qf|apply qh|apply qj|apply qg|(apply qr;(iterate 3 exact rfl))|(apply qd;exact rfl;apply ku;exact cAo)|(apply qd;exact rfl;apply cd_t;exact cRa)|(apply jc;exact rfl;exact rfl;exact cOs)|(apply zi;exact rfl;exact rfl;exact q8 (by omega) (by omega))|(apply jm;exact rfl;exact rfl)|(apply zj;(iterate 3 exact rfl))|(apply zy;(iterate 3 exact rfl))|(apply jl;(iterate 5 exact rfl))|(apply zz;(iterate 11 exact rfl))|apply qv|(apply z8 (n:=pre.length);(iterate 5 exact rfl);exact hget))
   exact xp ⟨rfl,congrArg (fun l:Bytes=>Sv l) hx2.symm,rfl,rfl,qdf pre a,trivial⟩ rfl
end Go.Proofs.YtmoklbacdkmkaaaGreatDoor
namespace Go.Av
open Go Go.RowKit
def TipC (b:Nat) (st:List AObj) (sz:Nat) (T:TypeId) (xs:List AV) (c:AV):Prop:=(xs=[]∧c=zm)∨∃ t,c = .sl sz xs (some t)∧st[t]? = some (.tip xs.length sz T)∧b≤t
structure Fr (st st':List AObj) (t:Nat):Prop where
 len:st.length≤st'.length
 same:∀ k,k≠t→k<st.length→st'[k]? = st[k]?
theorem zeh (b:Nat) (st:List AObj) (sz:Nat) (T:TypeId):TipC b st sz T [] zm:=.inl ⟨rfl,rfl⟩
theorem qj0 {b:Nat} {st l:List AObj} {sz:Nat} {T:TypeId} {xs:List AV} {c:AV} (h:TipC b st sz T xs c):TipC b (st++l) sz T xs c:=by
 rcases h with h | ⟨t,h1,h2,h3⟩
 ·exact .inl h
 ·exact .inr ⟨t,h1,by rw [List.getElem?_append_left (lt_of_getElem? h2)];exact h2,h3⟩
section
variable {E : Env} {rd : Option Nat} {N : Nat} {ops : Array Oper} {K : AS → Prop} {s : AS} {rest : List Oper} {d : Option Tmp} {T : TypeId} {p : String} {af : Array Edge}
theorem qy2 {x y:Operand} {t u T':TypeId} {sz bytes b:Nat} {xs ys:List AV} {tip:Option Nat} {c:AV} {st:List AObj} (hst:s.st=st) (hx:qm N s x=c) (hc:TipC b st sz T' xs c) (hb:b≤st.length) (hy:qm N s y = .sl sz ys tip)
  (ht:E.P.underlying t=some (.slice T')) (hu:E.P.underlying u=some (.slice T')) (hT:yc E.P T' sz bytes) (hone:j9 (flat ys)=true) (h63:xs.length+ys.length≤maxLen) (hby:(xs.length+ys.length) * bytes≤140737488355328)
  (h:∀ t1 st',st'[t1]? = some (.tip (xs++ys).length sz T')→b≤t1→Fr st st' t1→(c = .sl sz xs (some t1)∨st.length≤t1)→AOps E rd N ops rest K (AS.put ⟨s.t,st',s.df⟩ d (.sl sz (xs++ys) (some t1)))):AOps E rd N ops (⟨d,.call ⟨.builtin .append,#[x,y],#[t,u]⟩,T,p,af,none⟩::rest) K s:=by
 subst hst
 refine q9 rfl (q7 nofun fun B0 w0 G a w _ hI=>?_)
 rcases hc with⟨hxs,hcn⟩ | ⟨t1,h1,h2,h3⟩
 ·subst hxs
  have hle:=G.le_new 0 0 0 false
  have hA:=hI.agree.newTip sz T'
  have hv:a.eval x = .slice none 0 0:=hI.evalv (hx.trans hcn)
  have hn:=hI.agree.n
  obtain⟨news,k1,k2,k3⟩:=y0 (P:=E.P) hA ((hI.eval_of hy).mono hle) (by simpa [j9] using hone)
  have hr:Rel (G.new 0 0 0 false) (.sl sz [] (some s.st.length)) (a.eval x):=by
   rw [hv]
   exact .sl0 sz _ none 0 fun t ht=>by simp only [Option.some.injEq] at ht;subst ht;exact⟨by simp [Gh.new,hn],rfl,rfl⟩
  obtain⟨v',w',G',e1,e2,e3,e4⟩:=qci (ty:=T) hA ht hu (.inr ⟨_,rfl⟩) hT (t:=s.st.length) (n:=0) (by simp) hr rfl rfl k1 k2 k3 (by simpa using h63) (by simpa using hby)
  refine⟨v',w',G',_,_,?_,hle.trans e2,e3,e4,h s.st.length _ ?_ hb ⟨by simp,fun k hk hlt=>?_⟩ (.inr (Nat.le_refl _))⟩
  ·generalize a.eval = ρ at e1
   simp [execOp,resolve,invoke,builtin,e1]
  ·simp
  ·rw [List.getElem?_set_ne (Ne.symm hk),List.getElem?_append_left hlt]
 ·obtain⟨news,k1,k2,k3⟩:=y0 (P:=E.P) hI.agree (hI.eval_of hy) (by simpa [j9] using hone)
  obtain⟨v',w',G',e1,e2,e3,e4⟩:=qci (ty:=T) hI.agree ht hu (.inr ⟨_,rfl⟩) hT h2 (hI.eval_of (hx.trans h1)) rfl rfl k1 k2 k3 h63 hby
  refine⟨v',w',G',_,_,?_,e2,e3,e4,h t1 _ ?_ h3 ⟨by simp,fun k hk hlt=>?_⟩ (.inl h1)⟩
  ·generalize a.eval = ρ at e1
   simp [execOp,resolve,invoke,builtin,e1]
  ·rw [List.length_append]
   exact kq h2
  ·rw [List.getElem?_set_ne (Ne.symm hk)]
theorem qnu {t:TypeId} {x:Operand} {r:AV} {cs:List AV} (hx:qm N s x=r) (hok:r.okc=true) (hc:r.cells=cs)
  (h:AOps E rd N ops rest K (s.put d (.pp cs))):AOps E rd N ops (⟨d,.box t x,T,p,af,none⟩::rest) K s:=by
 refine q9 rfl (q7 nofun fun B0 w0 G a w _ hI=>?_)
 have hr:=(hI.eval_of hx).cells hok
 rw [hc] at hr
 obtain⟨hle,hA⟩:=hI.agree.newPub t (a.eval x).cells (0,0) (a.eval x).cells.toList (fun i y hy=>by simpa using hy)
 have hrun:(execOp a.eval ⟨d,.box t x,T,p,af,none⟩).run E.P w = .ok (.value (.pointer (some ⟨w.heap.size,0,none⟩))) (w.alloc (.cells (a.eval x).cells t)):=by
  generalize a.eval = ρ
  simp [execOp,Instr.box,newVar,newRow,newObj,Sem.run]
 refine⟨_,_,_,.pp cs,s.st,hrun,hle,hA,.pp cs w.heap.size 0 (a.eval x).cells.toList (by simp [Gh.publish]) (by rw [hr.1];simp) fun i x y hx hy=>(hr.2 i x y hx (by simpa using hy)).mono hle,h⟩
end
theorem qpv {E:Env} {f:FuncId} {x x':AV} {us:List AV} {st:List AObj} {R:AV→List AObj→Prop} (hw:∀ G v,Rel G x v→Rel G x' v) (h:qp E f (x'::us) st R):qp E f (x::us) st R:=
 ⟨fun B0 w0 G vals w hL hA hR=>h.run B0 w0 G vals w hL hA ⟨by have:=hR.1;simpa using this,fun i a b ha hb=>by
  cases i with
  |zero=>simp at ha;subst ha;exact hw G b (hR.2 0 x b rfl hb)
  |succ i=>exact hR.2 (i+1) a b (by simpa using ha) hb⟩⟩
theorem qcc {st l:List AObj} {o:Nat} {x:AObj} (h:st[o]? = some x):(st++l)[o]? = some x:=by
 rw [List.getElem?_append_left (lt_of_getElem? h)];exact h
theorem xm {st:List AObj} {x:AObj}:(st++[x])[st.length]? = some x:=by simp
section
variable {E : Env} {rd : Option Nat} {N : Nat} {ops : Array Oper} {K : AS → Prop} {s : AS} {rest : List Oper} {d : Option Tmp} {T : TypeId} {p : String} {af : Array Edge}
theorem qk3 {t:TypeId} {st:List AObj} {cs:List AV} (hst:s.st=st) (hz:qi1 E.P t=some cs)
  (h:AOps E rd N ops rest K (AS.put ⟨s.t,st++[.cells 0 t cs],s.df⟩ d (.bx st.length 0 0))):AOps E rd N ops (⟨d,.alloc t,T,p,af,none⟩::rest) K s:=
 jm (loc:=[]) (by rw [hst];simp) hz h
theorem q8a {t:TypeId} {x:Operand} {st:List AObj} {r:AV} {cs:List AV} (hst:s.st=st) (hx:qm N s x=r) (hok:r.okc=true) (hc:r.cells=cs)
  (h:AOps E rd N ops rest K (AS.put ⟨s.t,st++[.cells 0 t cs],s.df⟩ d (.bx st.length 0 0))):AOps E rd N ops (⟨d,.box t x,T,p,af,none⟩::rest) K s:=
 qa6 (loc:=[]) (by rw [hst];simp) hx hok hc h
end
theorem qmj {st st':List AObj} (hl:st.length≤st'.length) (h:∀ k,k<st.length→st'[k]? = st[k]?):∃ ext,st'=st++ext:=by
 refine⟨st'.drop st.length,?_⟩
 apply List.ext_getElem?
 intro k
 by_cases hk:k<st.length
 ·rw [h k hk,List.getElem?_append_left hk]
 ·rw [List.getElem?_append_right (by omega),List.getElem?_drop]
  congr 1
  omega
end Go.Av
namespace Go.Proofs.YtmoklbacdkmkaaaGreatDoor
open Go Go.Av Go.RowKit Go.Proofs
def qjn (x:Option AObj):Prop:=∀ n sz T,x≠some (.tip n sz T)
theorem qa8 {ver:Nat} {T:TypeId} {cs:List AV} {x:Option AObj} (h:x=some (.cells ver T cs)):qjn x:=fun n sz T' e=>by
 rw [h] at e
 simp at e
end Go.Proofs.YtmoklbacdkmkaaaGreatDoor
namespace Go.Proofs.YtmoklbacdkmkaaaGreatDoor
open Go Go.Av Go.RowKit Go.Proofs Go.Pl
structure Ext (n:Nat) (S S':List AObj):Prop where
 len:S.length≤S'.length
 low:∀ k,k<n→S'[k]? = S[k]?
 tips:∀ (t m sz:Nat) (T:TypeId),S[t]? = some (AObj.tip m sz T)→S'[t]? = S[t]?
theorem q4u {n:Nat} {S l:List AObj} (h:n≤S.length):Ext n S (S++l):=⟨by simp,fun k hk=>List.getElem?_append_left (by omega),fun t m sz T ht=>List.getElem?_append_left (lt_of_getElem? ht)⟩
theorem qd8 {n o:Nat} {S:List AObj} {x:AObj} (h:n≤o) (hn:qjn S[o]?):Ext n S (S.set o x):=⟨by simp,fun k hk=>List.getElem?_set_ne (by omega),fun t m sz T ht=>List.getElem?_set_ne (fun e=>by subst e;exact hn _ _ _ ht)⟩
theorem Ext.weak {n m:Nat} {S S':List AObj} (h:Ext n S S') (hm:m≤n):Ext m S S':=⟨h.len,fun k hk=>h.low k (by omega),h.tips⟩
theorem Ext.trans {n:Nat} {S S' S'':List AObj} (h:Ext n S S') (k:Ext n S' S''):Ext n S S'':=⟨Nat.le_trans h.len k.len,fun i hi=>(k.low i hi).trans (h.low i hi),fun t m sz T ht=>(k.tips t m sz T ((h.tips t m sz T ht).trans ht)).trans (h.tips t m sz T ht)⟩
theorem za9 (text:List UInt8) (o kb ver n m:Nat) (I:Nat→List UInt8→List AObj→Prop) (D:List AObj→Prop) (S:List AObj) (hm:S.length=m) (hn:n≤m) (ht:text.length<4294967281) (h0:I 0 text S)
  (hI:∀ k rest S',I k rest S'→S'[kb]? = some (.cells ver 9 [Sv text]))
  (hst:∀ k rest S' S'',Ext n S' S''→I k rest S'→I k rest S'')
  (hY:∀ k rest S' cs,I k rest S'→S'[m]? = some (.cells 0 181 cs)→rest≠[]→rest.length≤text.length→qau E o [qea k text rest] S' fun b S''=>S''[m]? = some (.cells 0 181 cs)∧(b=true→I (k+1) (past 10 rest) S'')∧(b=false→D S'')) :
  qp E 163 [.yd o,.bx kb ver 0] S fun r S'=>(∃ k,I k [] S')∨D S':=by
 subst hm
 refine qq Tryz.func163 rfl (Nat.le_of_ble_eq_true rfl) ?_
 have hb:=hI 0 text S h0
 repeat' (first|apply qn|apply qw|apply qf|apply qh|apply qg|(apply jm;exact rfl;exact rfl)|(apply zz;(iterate 11 exact rfl))|(apply vu;(iterate 3 exact rfl))|(apply qc8;exact rfl;exact rfl;exact hb;exact rfl;exact rfl))
 refine ju (fun (x:Nat×List UInt8) s=>match x with|(k,rest)=>∃ S' at' ta eb,I k rest S'∧k+rest.length≤text.length∧at'=(text.length:Int) - rest.length∧S'[S.length]? = some (.cells 0 181 [Iv k,Iv at',Sv ta,Bv eb])∧StA [(0,.yd o),(1,.bx kb ver 0),(3,.bx S.length 0 0),(4,Sv rest)] S' [] s) (fun x=>x.2.length) (0,text)
  ⟨_,0,[],false,hst _ _ _ _ (q4u hn) h0,by simp,by simp,jo (k:=0) rfl,jb ⟨rfl,rfl,rfl,rfl,trivial⟩⟩ ?_
 rintro⟨k,rest⟩ _ ⟨S',_,ta,eb,hi,hle,rfl,hown,t,rfl⟩
 have hb':=hI k rest S' hi
 repeat' (first|apply qn|apply qw|apply qf|apply qh|apply qj|apply qg|(apply zf;exact rfl;exact rfl)|(apply jj;(iterate 3 exact rfl))|(apply qd;exact rfl;apply cd_d <;> intro h)|(apply zj;(iterate 3 exact rfl))|apply qv|apply z4|(apply qk;exact Tryz.call96;exact qje _ _ _ (by omega))|(apply vd;exact rfl;(focus first|assumption|(repeat' (first|assumption|exact xm|exact jo rfl|apply kq|apply vg|omega|apply qcc)));exact rfl;exact rfl)|(apply yy;exact rfl;exact rfl;(focus first|assumption|(repeat' (first|assumption|exact xm|exact jo rfl|apply kq|apply vg|omega|apply qcc)));(iterate 6 exact rfl)))
 ·have e1:Ext n S' ((S'.set S.length (.cells 0 181 [Iv k,Iv ((text.length:Int) - rest.length),Sv (upto 10 rest),Bv eb])).set S.length (.cells 0 181 [Iv k,Iv ((text.length:Int) - rest.length),Sv (upto 10 rest),Bv (decide (10∈rest))])):=
   (qd8 hn (qa8 hown)).trans (qd8 hn (qa8 (kq hown)))
  apply qgt (o:=o) rfl
  refine qau.mono (hY k rest _ _ (hst _ _ _ _ e1 hi) (kq (kq hown)) h (by omega)) ?_
  rintro b S2 ⟨hown2,h1,h2⟩
  show AOps _ _ _ _ _ _ _
  cases b
  ·skip
   repeat' (first|apply qh|(apply je;exact rfl)|(apply qd;exact rfl;apply qkd;exact cRa)|apply qt)
   exact qo rfl (qbp rfl) (.inr (h2 rfl))
  ·have hi3:=h1 rfl
   have hb3:=hI _ _ _ hi3
   have hp:=km 10 rest
   have hr0:0<rest.length:=List.length_pos_iff.2 h
   have hkb:kb≠S.length:=fun e=>by
    rw [e,hown2] at hb3
    simp at hb3
   repeat' (first|apply qn|apply qf|apply qh|apply qj|(apply je;exact rfl)|(apply qd;exact rfl;apply qkc;exact cRa)|(apply zn;(iterate 3 exact rfl))|(apply zi;exact rfl;exact rfl;exact q8 (by omega) (by omega))|(apply xh;exact rfl;exact rfl;exact q8 (by omega) (by omega))|(apply zj;(iterate 3 exact rfl))|apply qv|(apply vd;exact rfl;exact vg hb3 (Ne.symm hkb);exact rfl;exact rfl)|(apply vd;exact rfl;(focus first|assumption|(repeat' (first|assumption|exact xm|exact jo rfl|apply kq|apply vg|omega|apply qcc)));exact rfl;exact rfl)|(apply yy;exact rfl;exact rfl;(focus first|assumption|(repeat' (first|assumption|exact xm|exact jo rfl|apply kq|apply vg|omega|apply qcc)));(iterate 6 exact rfl)))
   have e2:Ext n S2 _:=(qd8 hn (qa8 hown2)).trans (qd8 (x:=.cells 0 181 [Iv ((k:Int)+1),Iv ((text.length:Int) - (past 10 rest).length),Sv (upto 10 rest),Bv (decide (10∈rest))]) hn (qa8 (kq (y:=.cells 0 181 [Iv ((k:Int)+1),Iv ((text.length:Int) - rest.length),Sv (upto 10 rest),Bv (decide (10∈rest))]) hown2)))
   exact⟨(k+1,past 10 rest),⟨_,_,_,_,hst _ _ _ _ e2 hi3,by omega,rfl,kq (kq hown2),jb ⟨rfl,rfl,rfl,rfl,trivial⟩⟩,by simp only;omega⟩
 ·have hr:rest=[]:=Classical.not_not.1 h
  subst hr
  exact qo rfl (qbp rfl) (.inl ⟨k,hi⟩)
structure ItC (g:FuncId) (T:TypeId) (cs:List AV) {ι : Type} (Y : ι→Option (AV×ι)) (i0 : ι):Prop where
 run:∀ (o kb n m:Nat) (I : ι→List AObj→Prop) (D:List AObj→Prop) (S:List AObj),S.length=m→n≤m→I i0 S →
  (∀ i S',I i S'→S'[kb]? = some (.cells 0 T cs))→(∀ i S' S'',Ext n S' S''→I i S'→I i S'') →
  (∀ i x j S' (own:List AObj),I i S'→(∀ k y,own[k]? = some y→S'[m+k]? = some y∧qjn (some y))→Y i=some (x,j)→qau E o [x] S' fun b S''=>(∀ k y,own[k]? = some y→S''[m+k]? = some y)∧(b=true→I j S'')∧(b=false→D S'')) →
  qp E g [.yd o,.bx kb 0 0] S fun r S'=>(∃ i,Y i=none∧I i S')∨D S'
def qo7 (text:List UInt8):Nat×List UInt8→Option (AV×(Nat×List UInt8))
 |(k,rest)=>if rest=[]∨text.length<rest.length then none else some (qea k text rest,(k+1,past 10 rest))
theorem zec (text:List UInt8) (ht:text.length<4294967281):ItC 163 9 [Sv text] (qo7 text) (0,text):=⟨fun o kb n m I D S hm hn h0 hI hst hY=>by
 refine (za9 text o kb 0 n m (fun k rest S=>I (k,rest) S∧rest.length≤text.length) D S hm hn ht ⟨h0,Nat.le_refl _⟩ (fun k rest S' h=>hI _ _ h.1) (fun k rest S' S'' hE h=>⟨hst _ _ _ hE h.1,h.2⟩) (fun k rest S' cs hi hown hne hle=>?_)).mono ?_
 ·refine (hY (k,rest) (qea k text rest) (k+1,past 10 rest) S' [.cells 0 181 cs] hi.1 (fun j y hy=>?_) (if_neg fun h=>h.elim hne (by omega))).mono fun b S'' ⟨h1,h2,h3⟩=>⟨by have:=h1 0 _ rfl;simpa using this,fun hb=>⟨h2 hb,by have:=km 10 rest;omega⟩,h3⟩
  match j with
  | 0=>
   simp only [List.getElem?_cons_zero,Option.some.injEq] at hy
   subst hy
   exact⟨hown,qa8 rfl⟩
  |j+1=>simp at hy
 ·rintro r S' (⟨k,h⟩|h)
  ·exact .inl ⟨(k,[]),by simp [qo7],h.1⟩
  ·exact .inr h⟩
@[reducible] def zh8 (n : Nat) (F : LoopState → Option Code → AObj) (own : List AObj) (I : List AObj → Prop) (D : Code → List AObj → Prop) : Exit → AS → Prop
 | .normal,s=>s.st[n]? = some .dfr∧s.st[n+1]? = some (F .busy none)∧(∀ k y,own[k]? = some y→s.st[n+2+k]? = some y)∧I s.st
 | .ret,s=>s.st[n]? = some .dfr∧s.st[n+1]? = some (F .busy none)∧(∀ k y,own[k]? = some y→s.st[n+2+k]? = some y)∧D .ret s.st
 | .exit id,s=>s.st[n]? = some .dfr∧s.st[n+1]? = some (F .busy none)∧(∀ k y,own[k]? = some y→s.st[n+2+k]? = some y)∧D (.exit id) s.st
 | _,_=>False
theorem qjo {N:Nat} {t:Nat→AV} {ps:Array Tmp} {asg body:Code} {F:LoopState→Option Code→AObj} (hF:ql4 F N t ps asg body) (ls:LoopState) (pend:Option Code) {x:Option AObj} (h:x=some (F ls pend)):qjn x:=fun n sz T' e=>by
 rw [h,hF] at e
 simp at e
theorem qzk {N:Nat} {Q:Exit→AS→Prop} {s:AS} {f:Operand} {p:Tmp} {asg body:Code} {S0:List AObj} {kb:Nat} {g:FuncId} {T:TypeId} {cs:List AV} {ι : Type} {Y : ι→Option (AV×ι)} {i0 : ι} (hit:ItC g T cs Y i0) (hst:s.st=S0) (hx:qm N s f = .fn (.func g) [] [.bx kb 0 0])
  (hrun:∀ vs w,(callFunc g vs).run E.P w = .ok (.enter g vs) w)
  (I : ι→List AObj→Prop) (D:Code→List AObj→Prop) (h0:I i0 S0)
  (hI:∀ i S,I i S→S[kb]? = some (.cells 0 T cs))
  (hs1:∀ i S S',Ext S0.length S S'→I i S→I i S') (hs2:∀ c S S',Ext S0.length S S'→D c S→D c S')
  (hb:∀ F (own:List AObj) rd i x j S,ql4 F N s.t #[p] asg body→I i S→Y i=some (x,j)→S[S0.length]? = some .dfr→S[S0.length+1]? = some (F .ready none)→(∀ k y,own[k]? = some y→S[S0.length+2+k]? = some y∧qjn (some y)) →
   AWp E (some rd) N asg (only fun s1=>s1.st[S0.length+1]? = some (F .ready none)∧s1.df=[]∧AWp E (some rd) N body (zh8 S0.length F own (I j) D) ⟨s1.t,s1.st.set (S0.length+1) (F .busy none),[]⟩) ⟨put s.t p x,S,[]⟩)
  (hn:∀ i S,Y i=none→I i S→S[S0.length]? = some .dfr→Q .normal ⟨s.t,S,S0.length::s.df⟩)
  (hd:∀ c S,D c S→S[S0.length]? = some .dfr→AWp E none N c Q ⟨s.t,S,S0.length::s.df⟩):AWp E none N (.rangeFunc f #[p] asg body) Q s:=by
 refine qmd (st:=S0) (loc:=[]) (by rw [hst];simp) hx hrun fun F hF=>?_
 have hl:(S0++([]++[AObj.dfr,F .ready none])).length=S0.length+2:=by simp
 have g1:(S0++([]++[AObj.dfr,F .ready none]))[S0.length]? = some .dfr:=by simp
 have g2:(S0++([]++[AObj.dfr,F .ready none]))[S0.length+1]? = some (F .ready none):=by simp
 have hz:S0.length+(([]:List AObj).length+1)=S0.length+1:=by simp
 rw [hz,show S0.length+([]:List AObj).length=S0.length from rfl]
 refine qp.mono (hit.run (S0.length+1) kb (S0.length+2) (S0.length+2) (fun i S=>I i S∧S[S0.length]? = some .dfr∧S[S0.length+1]? = some (F .ready none)) (fun S=>∃ c,D c S∧S[S0.length]? = some .dfr∧S[S0.length+1]? = some (F .done (some c))) (S0++([]++[.dfr,F .ready none])) hl (Nat.le_refl _) ⟨hs1 _ _ _ (q4u (Nat.le_refl _)) h0,g1,g2⟩ (fun i S h=>hI i S h.1) (fun i S S' hE h=>⟨hs1 _ _ _ (hE.weak (by omega)) h.1,(hE.low _ (by omega)).trans h.2.1,(hE.low _ (by omega)).trans h.2.2⟩) ?_) ?_
 ·rintro i x j S' own ⟨hi,hd1,hf1⟩ hown hy
  refine qqz hF hf1 rfl fun rd=>?_
  refine (hb F own rd i x j S' hF hi hy hd1 hf1 hown).mono fun e s1 hq=>?_
  have fin:∀ {S:List AObj} {z:AObj},(∀ k y,own[k]? = some y→S[S0.length+2+k]? = some y)→∀ k y,own[k]? = some y→(S.set (S0.length+1) z)[S0.length+2+k]? = some y:=fun h k y hk=>vg (h k y hk) (by omega)
  cases e with
  |normal=>
   obtain⟨q1,q2,q3⟩:=hq
   refine⟨q1,q2,q3.mono fun e s2 hq2=>?_⟩
   cases e with
   |normal=>
    obtain⟨k1,k2,k3,k4⟩:=hq2
    exact⟨k2,fin k3,fun _=>⟨hs1 _ _ _ (qd8 (by omega) (qjo hF _ _ k2)) k4,vg k1 (by omega),kq k2⟩,nofun⟩
   |ret=>
    obtain⟨k1,k2,k3,k4⟩:=hq2
    exact⟨k2,fin k3,nofun,fun _=>⟨_,hs2 _ _ _ (qd8 (by omega) (qjo hF _ _ k2)) k4,vg k1 (by omega),kq k2⟩⟩
   |exit id=>
    obtain⟨k1,k2,k3,k4⟩:=hq2
    exact⟨k2,fin k3,nofun,fun _=>⟨_,hs2 _ _ _ (qd8 (by omega) (qjo hF _ _ k2)) k4,vg k1 (by omega),kq k2⟩⟩
   | _=>exact hq2.elim
  | _=>exact hq.elim
 ·rintro r S' (⟨i,hy,hi,hd1,hf1⟩ | ⟨c,hi,hd1,hf1⟩)
  ·exact⟨.ready,none,nofun,hf1,hn i _ hy (hs1 _ _ _ (qd8 (by omega) (qjo hF _ _ hf1)) hi) (vg hd1 (by omega))⟩
  ·exact⟨.done,some c,nofun,hf1,hd c _ (hs2 _ _ _ (qd8 (by omega) (qjo hF _ _ hf1)) hi) (vg hd1 (by omega))⟩
end Go.Proofs.YtmoklbacdkmkaaaGreatDoor
