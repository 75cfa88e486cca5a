/- Contracts and plain facts that the closing text leans on (part 6). No condition of their own beyond those that each states. -/
import Derived.Test.YtejoahlpbckbeaaGreatDoorK5
import Derived.Laws.StructEq
import Derived.Lib.SliceRun
set_option maxRecDepth 100000
set_option linter.unusedVariables false
set_option linter.unusedSimpArgs false
namespace Go.Proofs.YtejoahlpbckbeaaGreatDoor
open Go Go.Av Go.RowKit Go.Proofs Go.Pl
def qbe (x:qr):qc:=qdg x++[10]++qeo [32,32] (js x.fields)
def encF (b:List qr):qc:=b.flatMap qbe
theorem qm7:∀ (k:Nat) (r:List Fld),wi k r = .no↔∀ f∈r,jm f
 |k,[]=>by simp [wi]
 |k,f::r=>by
  unfold wi
  split
  ·rename_i h
   rw [qm7 (k+1) r]
   have:=(yj f).1 h
   simp [this]
  ·rename_i h
   have h2:¬ jm f:=fun g=>h ((yj f).2 g)
   simp [h2]
theorem qck {fs:List Fld} (h:zl fs = .no):fs≠[]∧fs.length≤40∧∀ f∈fs,jm f:=by
 unfold zl at h
 split at h
 ·exact absurd h (by simp)
 ·split at h
  ·exact absurd h (by simp)
  ·exact⟨by assumption,by omega,(qm7 _ _).1 h⟩
theorem qg4 {x:qr} (h:gErr x = .no):x.fields.length≤40∧∀ f∈x.fields,jm f:=by
 unfold gErr at h
 split at h
 ·split at h
  ·rename_i h0;rw [h0];simp
  ·exact absurd h (by simp)
 ·split at h
  ·exact (qck h).2
  ·exact absurd h (by simp)
theorem qti:∀ (k:Nat) (b:List qr),yo k b = .no↔∀ x∈b,gErr x = .no
 |k,[]=>by simp [yo]
 |k,x::b=>by
  unfold yo
  split
  ·rename_i h
   rw [qti (k+1) b]
   have:=(qja x).1 h
   simp [this]
  ·rename_i h
   have h2:¬ gErr x = .no:=fun g=>h ((qja x).2 g)
   simp [h2]
theorem qg2 {b:List qr} (h:eErr b = .no):1≤b.length∧b.length≤40∧∀ x∈b,gErr x = .no:=by
 unfold eErr at h
 split at h
 ·exact absurd h (by simp)
 ·exact⟨by omega,by omega,(qti _ _).1 h⟩
theorem q19 {fs:List Fld} (hl:fs.length≤40) (h:∀ f∈fs,jm f):q6m fs:=⟨by omega,fun f hf=>by
 have:=h f hf
 have h1:=this.1.2.1
 have h2:=this.2
 omega⟩
theorem qzk (xs:List FldV) (st:List AObj) (hl:xs.length≤40) (h:∀ f∈xs,jm f):qn E 70 [zr xs] st fun r st'=>r = .tu [Sv (js xs),.v .nilIface]∧st'=st:=by
 have:=zaj xs st (q19 hl h)
 unfold qnk at this
 have h0:=(qi6 xs).2 h
 rw [if_pos h0,h0] at this
 exact this
theorem qwm (l:qc):(qeo [32,32] l).length≤3 * l.length:=by
 unfold qeo
 obtain⟨h1,h2⟩:=qjm _ l (Nat.le_refl _)
 have:=qt2 [32,32] (zj l)
 simp only [List.length_cons,List.length_nil] at this
 omega
theorem q2i (x:qr) (h1 : -9223372036854775808≤x.id) (h2:x.id≤9223372036854775807):(qdg x).length≤100:=by
 have hn:=Lib.itoa_length_le x.id h1 h2
 unfold qdg qnn
 split
 ·split
  ·simp;omega
  ·split
   ·simp;omega
   ·split <;> simp <;> omega
 ·simp
theorem qzc {x:qr} (hB:EdB x) (h:gErr x = .no):(qbe x).length≤700000:=by
 obtain⟨hl,hg⟩:=qg4 h
 have h1:=qfz x.fields hg
 have h2:=qwm (js x.fields)
 have h3:=q2i x hB.id1 hB.id2
 unfold qbe
 simp only [List.length_append,List.length_cons,List.length_nil]
 omega
theorem qtk:∀ (b:List qr),(∀ x∈b,EdB x)→(∀ x∈b,gErr x = .no)→(encF b).length≤700000 * b.length
 | [],_,_=>by simp [encF]
 |x::r,hB,h=>by
  have ih:=qtk r (fun y hy=>hB y (by simp [hy])) (fun y hy=>h y (by simp [hy]))
  have h1:=qzc (hB x (by simp)) (h x (by simp))
  have e:encF (x::r)=qbe x++encF r:=by simp [encF]
  rw [e,List.length_append,List.length_cons]
  omega
end Go.Proofs.YtejoahlpbckbeaaGreatDoor
namespace Go.Av
open Go Go.RowKit
theorem q6i {b:Nat} {st l:List AObj} {sz:Nat} {T:TypeId} {xs:List AV} {c:AV} (h:TipO b st sz T xs c):TipO b (st++l) sz T xs c:=by
 rcases h with h|h
 ·exact .inl (qfi h)
 ·exact .inr h
theorem q9o {b:Nat} {st st':List AObj} {sz:Nat} {T:TypeId} {xs:List AV} {c:AV} (hs:∀ (t m sz:Nat) (T:TypeId),st[t]? = some (AObj.tip m sz T)→st'[t]? = st[t]?) (h:TipO b st sz T xs c):TipO b st' sz T xs c:=by
 rcases h with (h | ⟨t,h1,h2,h3⟩)|h
 ·exact .inl (.inl h)
 ·exact .inl (.inr ⟨t,h1,(hs t _ _ _ h2).trans h2,h3⟩)
 ·exact .inr h
end Go.Av
namespace Go.Proofs.YtejoahlpbckbeaaGreatDoor
open Go Go.Av Go.RowKit Go.Proofs Go.Pl
theorem qep {st l:List AObj}:st.length≤(st++l).length:=by simp
theorem q3v {b o:Nat} {st:List AObj} {sz:Nat} {T:TypeId} {xs:List AV} {c:AV} {x:AObj} (h:TipO b st sz T xs c) (hn:qfa st[o]?):TipO b (st.set o x) sz T xs c:=
 q9o (fun t m sz T ht=>List.getElem?_set_ne (fun e=>by subst e;exact hn _ _ _ ht)) h
structure OutI (st:List AObj) (S:List AObj):Prop where
 low:∀ j,j<st.length→S[j]? = st[j]?
 len:st.length≤S.length
theorem OutI.pre {st S l:List AObj} (h:OutI st S):OutI st (S++l):=⟨fun j hj=>(List.getElem?_append_left (by have:=h.len;omega)).trans (h.low j hj),by have:=h.len;simp;omega⟩
theorem OutI.set {st S:List AObj} {o:Nat} {x:AObj} (h:OutI st S) (ho:st.length≤o):OutI st (S.set o x):=⟨fun j hj=>(qk5 (by omega)).trans (h.low j hj),by have:=h.len;simp;omega⟩
theorem OutI.fr {st S S':List AObj} {t:Nat} (h:OutI st S) (hf:Fr S S' t) (ht:st.length≤t):OutI st S':=⟨fun j hj=>(hf.same j (by omega) (by have:=h.len;omega)).trans (h.low j hj),Nat.le_trans h.len hf.len⟩
theorem OutI.ext {st S:List AObj} (h:OutI st S):∃ ext,S=st++ext:=qpc h.low
theorem qbs {E:Env} {rd:Option Nat} {N:Nat} {ops:Array Oper} {K:AS→Prop} {s:AS} {rest:List Oper} {d:Option Tmp} {T:TypeId} {p:String} {af:Array Edge} {t e:TypeId} {len sz:Nat} {agg:Bool} {parts:Array (Nat×Operand)} {zs cs:List AV} {st:List AObj} (hst:s.st=st) (hu:E.P.underlying t=some (.slice e)) (ht:tyOf E.P e=some (sz,agg)) (hz:qbl E.P e len=some zs)
  (hf:y7 (fun i=>some (i * sz,sz)) zs (j7 N s parts)=some cs) (hsz:Nat.ble (len * sz) 16777216=true)
  (h:AOps E rd N ops rest K (AS.put ⟨s.t,st++[.cells 0 e cs],s.df⟩ d (.os st.length 0 0 len len))):AOps E rd N ops (⟨d,.buildSlice t len parts,T,p,af,none⟩::rest) K s:=
 xq (loc:=[]) (by rw [hst];simp) hu ht hz hf hsz h
theorem qwg (x:qr):qj6 (x2 x):=fun y hy=>by
 simp only [AV.cells,List.mem_cons,List.not_mem_nil,or_false] at hy
 rcases hy with rfl|rfl|rfl
 ·exact q8 _
 ·exact q8 _
 ·exact qa4 _
theorem qgi (b:List qr):Pure (yr b):=qa7 fun x hx=>by
 obtain⟨f,_,rfl⟩:=List.mem_map.1 hx
 exact qwg f
def tryB (k:Int) (l:qc):Option Int:=if qnn k <+: l then (match Lib.atoiAll (l.drop (qnn k).length) with
 | .ok n=>some n
 | _=>none) else none
def begE (l:qc):Option (Int×Int):=match tryB 1 l with
 |some n=>some (1,n)
 |none=>match tryB 2 l with
  |some n=>some (2,n)
  |none=>match tryB 3 l with
   |some n=>some (3,n)
   |none=>none
def recsF (its:List qu):List (List Fld):=(its.filter fun x=>decide (x.kind=3)).map qu.fields
@[reducible] def kf (ls : List (List Fld)) : AV := .sl 1 (ls.map zr) none
theorem qh7 (ls:List (List Fld)):Pure (kf ls):=qa7 fun x hx=>by
 obtain⟨f,_,rfl⟩:=List.mem_map.1 hx
 intro y hy
 simp only [AV.cells,List.mem_cons,List.not_mem_nil,or_false] at hy
 subst hy
 exact qa4 _
end Go.Proofs.YtejoahlpbckbeaaGreatDoor
namespace Go.Pl
open Go Go.Proofs Go.Proofs.YtejoahlpbckbeaaGreatDoor
def GF (fs:List Fld):Prop:=fs.length≤40∧∀ f∈fs,jm f
structure PI (p:PSt):Prop where
 items:∀ x∈p.items,GF x.fields∧(x.kind=3↔x.fields≠[])
 fields:GF p.fields
 full:p.lines≠[]→p.full=false→p.fields.length<40
theorem qxd {ls:List qc} (h:(ja ls).2=0):jm (ja ls).1:=by
 unfold ja at h ⊢
 split at h
 ·split at h
  ·simp at h
  ·rename_i h1 h2
   rw [if_pos h1,if_neg h2]
   exact⟨(qjg.1 h1.2.1).2.2,Nat.le_of_not_lt h2⟩
 ·simp at h
theorem pi0:PI p0:=⟨by simp [p0],⟨by simp [p0],by simp [p0]⟩,by simp [p0]⟩
theorem PI.flush {p:PSt} (h:PI p):PI (z4 p).2:=by
 unfold z4
 split
 ·exact h
 ·rename_i hl
  split
  ·exact h
  ·rename_i hu
   split
   ·exact h
   ·rename_i hf
    have hlt:=h.full hl (by simpa using hf)
    refine⟨h.items,⟨by simp;omega,fun f hm=>?_⟩,by simp⟩
    rcases List.mem_append.1 hm with hm|hm
    ·exact h.fields.2 f hm
    ·simp at hm;subst hm;exact qxd (by simpa using hu)
theorem PI.close {p:PSt} (h:PI p):PI (wj p):=by
 unfold wj
 split
 ·exact⟨h.items,⟨by simp,by simp⟩,fun h1 h2=>by simp⟩
 ·refine⟨fun x hx=>?_,⟨by simp,by simp⟩,fun h1 h2=>by simp⟩
  rcases List.mem_append.1 hx with hx|hx
  ·exact h.items x hx
  ·simp at hx
   subst hx
   refine⟨h.fields,?_⟩
   simp only
   split
   ·rename_i h0;simp [h0]
   ·rename_i h0;simp [h0]
theorem PI.end' {p:PSt} (h:PI p):PI (endP p).2:=by
 unfold endP
 split
 ·exact h
 ·exact h.flush.close
theorem PI.lines' {p:PSt} (h:PI p) (hl:p.lines≠[]) (text:qc):PI { p with lines:=p.lines++[text] }:=⟨h.items,h.fields,fun _ hf=>h.full hl hf⟩
theorem PI.begin' {p:PSt} (h:PI p) (no:Int) (text:qc):PI (jk p no text):=by
 refine⟨h.items,h.fields,fun _ hf=>?_⟩
 have:=h.fields.1
 simp only [jk,decide_eq_false_iff_not,not_or] at hf ⊢
 omega
theorem PI.ahead {p:PSt} (h:PI p) (no:Int) (text:qc) (ended:Bool) (kind:Int):PI (zt p no text ended kind).2:=by
 unfold zt
 split
 ·split
  ·exact h
  ·rename_i hl
   split
   ·exact h.lines' hl text
   ·exact (h.lines' hl text).flush
 ·split
  ·exact h.end'
  ·exact h.flush
theorem PI.take {p:PSt} (h:PI p) (no:Int) (text:qc) (ended:Bool):PI (vc p no text ended).2:=by
 have ha:=h.ahead no text ended (qm text)
 unfold vc
 split
 ·exact h
 ·split
  ·exact h
  ·split
   ·refine⟨fun x hx=>?_,ha.fields,ha.full⟩
    rcases List.mem_append.1 hx with hx|hx
    ·exact ha.items x hx
    ·simp at hx;subst hx;exact⟨⟨by simp,by simp⟩,by simp⟩
   ·split
    ·have hb:=ha.begin' no text
     exact⟨hb.items,hb.fields,hb.full⟩
    ·exact⟨ha.items,ha.fields,ha.full⟩
theorem PI.run:∀ (ls:List (qc×Bool)) (k:Nat) (p:PSt),PI p→PI (runL k ls p).2
 | [],k,p,h=>h.end'
 |(t,e)::r,k,p,h=>by
  unfold runL
  split
  ·exact h
  ·exact PI.run r (k+1) _ (h.take k t e)
theorem qwy (text:qc):∀ x∈(jw text).2,GF x.fields∧(x.kind=3↔x.fields≠[]):=by
 unfold jw
 split
 ·simp
 ·exact (PI.run _ 0 _ pi0).items
theorem qte (p:PSt):(wj p).items.length≤p.items.length+1:=by
 unfold wj
 split <;> simp
theorem qe2 (p:PSt):(z4 p).2.items=p.items:=by
 unfold z4
 split
 ·rfl
 ·split
  ·rfl
  ·split <;> rfl
theorem qne (p:PSt):(endP p).2.items.length≤p.items.length+1:=by
 unfold endP
 split
 ·simp
 ·have:=qte (z4 p).2
  rw [qe2] at this
  exact this
theorem qso (p:PSt) (no:Int) (text:qc) (ended:Bool) (kind:Int):(zt p no text ended kind).2.items.length≤p.items.length+1:=by
 unfold zt
 split
 ·split
  ·simp
  ·split
   ·simp
   ·rw [qe2];simp
 ·split
  ·exact qne p
  ·rw [qe2];simp
theorem qxa (p:PSt) (no:Int) (text:qc) (ended:Bool):(vc p no text ended).2.items.length≤p.items.length+2:=by
 have ha:=qso p no text ended (qm text)
 unfold vc
 split
 ·simp
 ·split
  ·simp
  ·split
   ·simp;omega
   ·split
    ·simp [jk];omega
    ·simp;omega
theorem qia:∀ (ls:List (qc×Bool)) (k:Nat) (p:PSt),(runL k ls p).2.items.length≤p.items.length+2 * ls.length+1
 | [],k,p=>by have:=qne p;simp [runL];omega
 |(t,e)::r,k,p=>by
  unfold runL
  split
  ·simp;omega
  ·have h1:=qia r (k+1) (vc p k t e).2
   have h2:=qxa p k t e
   simp only [List.length_cons]
   omega
end Go.Pl
namespace Go.Proofs.YtejoahlpbckbeaaGreatDoor
open Go Go.Av Go.RowKit Go.Proofs Go.Pl
def q16 (text:qc):List Fld×Bool:=
 if (y6 [32,32] text).2=false∨(jw (y6 [32,32] text).1).1≠none then ([],false)
 else match recsF (jw (y6 [32,32] text).1).2 with
  | []=>([],decide ((y6 [32,32] text).1=[]))
  |f::_=>(f,decide ((jw (y6 [32,32] text).1).2.length=1))
def quy (text:qc):List LnV→Nat→List qc
 | [],frm=>[text.drop frm]
 |l::r,frm=>if frm<l.at'∧¬ [32,32] <+: l.text then (text.take l.at').drop frm::quy text r l.at' else quy text r frm
def za2 (text:qc):List qc:=quy text (lns text) 0
def decP:List qc→List qr→Option (List qr)
 | [],acc=>some acc
 |p::r,acc=>match begE (upto 10 p) with
  |none=>none
  |some (k,n)=>if (q16 (past 10 p)).2=true∧acc.length≠40 then decP r (acc++[⟨k,n,(q16 (past 10 p)).1⟩]) else none
def decF (text:qc):Option (List qr):=if 50000<text.length then none else match decP (za2 text) [] with
 |none=>none
 |some b=>if eErr b = .no∧encF b=text then some b else none
theorem qga {α : Type} [DecidableEq α] {a b:List α} {k:Nat} {d : α} (hl:a.length=b.length) (hk:k<a.length) (h:a.take k=b.take k) (h2:a.getD k d=b.getD k d):a.take (k+1)=b.take (k+1):=by
 rw [List.take_succ_eq_append_getElem hk,List.take_succ_eq_append_getElem (by omega),h]
 congr 2
 simpa [List.getD,hk,show k<b.length by omega] using h2
end Go.Proofs.YtejoahlpbckbeaaGreatDoor
namespace Go.Pl
open Go Go.Proofs Go.Proofs.YtejoahlpbckbeaaGreatDoor
theorem yi (s:qc) (r:List qc):q6 (s::r)=s++10::q6 r:=by simp [q6]
theorem qcp:∀ (ls:List qc),(∀ s∈ls,10∉s)→zj (q6 ls)=ls.map fun s=>(s,true)
 | [],_=>by simp [q6,vg]
 |s::r,h=>by
  have hs:=h s (by simp)
  rw [yi,wq (by simp),qb1 _ hs,qfe _ hs,qcp r fun x hx=>h x (by simp [hx])]
  simp
theorem qwt {f:Fld} (h:jm f):∀ s∈z7 f,10∉s:=fun s hs=>by
 unfold z7 at hs
 rcases List.mem_cons.1 hs with rfl|hs
 ·have h1:=qct f.2 _ (qlv f.2)
  have h2:=h.1.2.2.2.2.2
  unfold j8
  split <;> simp_all
 ·obtain⟨x,hx,rfl⟩:=List.mem_map.1 hs
  have h1:=qct f.2 x (List.mem_of_mem_tail hx)
  have:=qoo h1
  simp [this]
theorem qjk {f:Fld} (h:jm f):∃ hd mr,z7 f=hd::mr∧qm hd=4∧∀ s∈mr,qm s=3:=by
 refine⟨_,_,rfl,qqz h.1 (qct f.2 _ (qlv f.2)),fun s hs=>?_⟩
 obtain⟨x,hx,rfl⟩:=List.mem_map.1 hs
 exact qq0 x (qct f.2 x (List.mem_of_mem_tail hx))
theorem q3r {p:PSt} {k:Int} {t:qc} (ht:qm t=3) (hl:p.lines≠[]):vc p k t true=(none,{ p with lines:=p.lines++[t],block:=p.block++[t] }):=by
 have ha:zt p k t true (qm t)=(none,{ p with lines:=p.lines++[t] }):=by
  unfold zt
  rw [if_pos ht,if_neg hl,if_pos rfl]
 unfold vc
 rw [ha,ht]
 simp
theorem qrl {p q:PSt} {k:Int} {t:qc} (ht:qm t=4) (hf:z4 p=(none,q)):vc p k t true=(none,{ jk q k t with block:=q.block++[t] }):=by
 have ha:zt p k t true (qm t)=(none,q):=by
  unfold zt
  rw [if_neg (by omega),if_neg (by omega)]
  exact hf
 unfold vc
 rw [ha,ht]
 simp
theorem qma:∀ (m:List qc) (k:Nat) (p:PSt) (ls:List (qc×Bool)),(∀ s∈m,qm s=3)→p.lines≠[] →
  runL k (m.map (fun s=>(s,true))++ls) p=runL (k+m.length) ls { p with lines:=p.lines++m,block:=p.block++m }
 | [],k,p,ls,_,_=>by simp
 |s::m,k,p,ls,h,hl=>by
  have hs:=h s (by simp)
  rw [List.map_cons,List.cons_append,runL,q3r hs hl]
  simp only
  rw [qma m (k+1) _ ls (fun x hx=>h x (by simp [hx])) (by simp)]
  simp only [List.append_assoc,List.cons_append,List.nil_append,List.length_cons]
  congr 1
  omega
theorem qnj {g:Fld} (hg:jm g) (frm:Int) (its:List qu) (blk:List qc) (done:List Fld) (rc:Int):z4 ⟨z7 g,frm,false,its,blk,done,rc⟩=(none,⟨[],frm,false,its,blk,done++[g],rc⟩):=by
 have hu:=qr0 hg
 unfold z4
 rw [if_neg (by simp [z7]),hu]
 simp
theorem qvb:∀ (r:List Fld) (done:List Fld) (g:Fld) (k:Nat) (frm:Int) (blk:List qc),jm g→(∀ f∈r,jm f)→done.length+1+r.length≤40→blk≠[] →
  (runL k ((r.flatMap z7).map fun s=>(s,true)) ⟨z7 g,frm,false,[],blk,done,0⟩).1=none∧(runL k ((r.flatMap z7).map fun s=>(s,true)) ⟨z7 g,frm,false,[],blk,done,0⟩).2.items=[⟨3,q6 (blk++r.flatMap z7),done++g::r⟩]
 | [],done,g,k,frm,blk,hg,_,_,hb=>by
  have he:endP ⟨z7 g,frm,false,[],blk,done,0⟩=(none,wj ⟨[],frm,false,[],blk,done++[g],0⟩):=by
   unfold endP
   rw [qnj hg]
  simp only [List.flatMap_nil,List.map_nil,runL,he,List.append_nil]
  refine⟨trivial,?_⟩
  unfold wj
  rw [if_neg hb]
  simp
 |f::r,done,g,k,frm,blk,hg,hr,hl,hb=>by
  have hf:=hr f (by simp)
  obtain⟨hd,mr,hlf,hk4,hk3⟩:=qjk hf
  simp only [List.length_cons] at hl
  have hrun:runL k (((f::r).flatMap z7).map fun s=>(s,true)) ⟨z7 g,frm,false,[],blk,done,0⟩=runL (k+1+mr.length) ((r.flatMap z7).map fun s=>(s,true)) ⟨z7 f,k,false,[],blk++z7 f,done++[g],0⟩:=by
   rw [List.flatMap_cons,List.map_append,hlf,List.map_cons,List.cons_append,runL,qrl hk4 (qnj hg frm [] blk done 0)]
   simp only
   rw [qma mr (k+1) _ _ hk3 (by simp [jk])]
   have hfu:decide ((done++[g]).length=40∨((done++[g]).length=0∧(0:Int)=400))=false:=by
    simp
    omega
   simp only [jk,hfu,List.append_assoc,List.cons_append,List.nil_append]
  rw [hrun]
  have ih:=qvb r (done++[g]) f (k+1+mr.length) k (blk++z7 f) hf (fun x hx=>hr x (by simp [hx])) (by simp;omega) (by simp [hb])
  rw [ih.1,ih.2]
  simp [List.flatMap_cons]
theorem qhl (fs:List Fld):js fs=q6 (fs.flatMap z7):=by
 induction fs with
 |nil=>rfl
 |cons f r ih=>
  rw [List.flatMap_cons,yh,← ih]
  simp [js]
theorem qi8 {fs:List Fld} (h:∀ f∈fs,jm f):∀ s∈fs.flatMap z7,10∉s:=fun s hs=>by
 obtain⟨f,hf,hs⟩:=List.mem_flatMap.1 hs
 exact qwt (h f hf) s hs
theorem qz1 {fs:List Fld} (hg:GF fs) (hne:fs≠[]):jw (js fs)=(none,[⟨3,js fs,fs⟩]):=by
 have hl:=qcp _ (qi8 hg.2)
 rw [← qhl] at hl
 cases fs with
 |nil=>exact absurd rfl hne
 |cons f r=>
  have hf:=hg.2 f (by simp)
  obtain⟨hd,mr,hlf,hk4,hk3⟩:=qjk hf
  have hlen:=hg.1
  simp only [List.length_cons] at hlen
  have hrun:runL 0 (((f::r).flatMap z7).map fun s=>(s,true)) p0=runL (0+1+mr.length) ((r.flatMap z7).map fun s=>(s,true)) ⟨z7 f,(0:Nat),false,[],z7 f,[],0⟩:=by
   have hfl:z4 p0=(none,p0):=rfl
   rw [List.flatMap_cons,List.map_append,hlf,List.map_cons,List.cons_append,runL,qrl hk4 hfl]
   simp only
   rw [qma mr (0+1) _ _ hk3 (by simp [jk])]
   simp [jk,p0]
  have ih:=qvb r [] f (0+1+mr.length) (0:Nat) (z7 f) hf (fun x hx=>hg.2 x (by simp [hx])) (by simp;omega) (by simp [z7])
  unfold jw
  rw [hl,hrun,ih.1]
  simp only
  rw [ih.2]
  rw [qhl,List.flatMap_cons,List.nil_append]
theorem qwn {ls:List qc} (h:∀ s∈ls,10∉s):qeo [32,32] (q6 ls)=q6 (ls.map fun s=>[32,32]++s):=by
 unfold qeo indF
 rw [qcp ls h]
 simp only [q6,List.flatMap_map,qeq,if_pos]
theorem q44 {ls:List qc} (h:∀ s∈ls,10∉s):∀ s∈ls.map (fun s=>[32,32]++s),10∉s:=fun s hs=>by
 obtain⟨x,hx,rfl⟩:=List.mem_map.1 hs
 have:=h x hx
 simp [this]
def qj8 (x:qr):List qc:=(x.fields.flatMap z7).map fun s=>[32,32]++s
theorem qk7 (v:Int):∀ c∈Lib.itoa v,c≠10∧c≠32:=fun c hc=>by
 by_cases hv:v<0
 ·rw [qhq hv] at hc
  rcases List.mem_cons.1 hc with rfl|hc
  ·decide
  ·have:=v4 _ _ (Nat.le_refl _) c hc
   constructor <;> rintro rfl <;> simp at this
 ·rw [qhr (by omega)] at hc
  have:=v4 _ _ (Nat.le_refl _) c hc
  constructor <;> rintro rfl <;> simp at this
theorem q2j (x:qr):10∉qdg x:=by
 unfold qdg
 split
 ·rename_i hk
  have h1:=qk7 x.id
  intro hc
  rcases List.mem_append.1 hc with hc|hc
  ·have:x.kind=1∨x.kind=2∨x.kind=3:=by omega
   rcases this with h|h|h <;> rw [h] at hc <;> revert hc <;> decide
  ·exact (h1 10 hc).1 rfl
 ·simp
theorem qwh {x:qr} (hg:∀ f∈x.fields,jm f):qbe x=q6 (qdg x::qj8 x):=by
 unfold qbe qj8
 rw [yi,qhl,qwn (qi8 hg)]
 simp
theorem q1k {x:qr} (hg:∀ f∈x.fields,jm f):∀ s∈qj8 x,10∉s:=q44 (qi8 hg)
theorem q1j {x:qr} (hg:∀ f∈x.fields,jm f):∀ s∈qj8 x,10∉s∧[32,32] <+: s:=fun s hs=>⟨q1k hg s hs,by
 obtain⟨y,_,rfl⟩:=List.mem_map.1 hs
 exact List.prefix_append _ _⟩
structure EncG (x:qr):Prop where
 kind:x.kind=1∨x.kind=2∨x.kind=3
 len:x.fields.length≤40
 good:∀ f∈x.fields,jm f
 id1 : -9223372036854775808≤x.id
 id2:x.id≤9223372036854775807
theorem q70 {x:qr} (h:gErr x = .no) (hB:EdB x):EncG x:=by
 obtain⟨h1,h2⟩:=qg4 h
 refine⟨?_,h1,h2,hB.id1,hB.id2⟩
 unfold gErr at h
 split at h
 ·exact .inr (.inl (by assumption))
 ·split at h
  ·rename_i hk;omega
  ·simp at h
def SpL (L:List qc):Prop:=L≠[]∧∀ s∈L,10∉s∧[32] <+: s
def encL (b:List qr):List qc:=b.flatMap fun x=>qdg x::qj8 x
theorem q11 {b:List qr} (hg:∀ x∈b,EncG x):encF b=q6 (encL b):=by
 induction b with
 |nil=>rfl
 |cons x r ih=>
  have e:encL (x::r)=(qdg x::qj8 x)++encL r:=by simp [encL]
  have e2:encF (x::r)=qbe x++encF r:=by simp [encF]
  rw [e,yh,e2,qwh (hg x (by simp)).good,ih fun y hy=>hg y (by simp [hy])]
theorem q8k {x:qr} (hk:x.kind=1∨x.kind=2∨x.kind=3):[32] <+: qdg x:=by
 unfold qdg
 rw [if_pos (by omega)]
 rcases hk with h|h|h <;> rw [h] <;> exact⟨_,rfl⟩
theorem q71 {b:List qr} (hne:b≠[]) (hg:∀ x∈b,EncG x):SpL (encL b):=by
 refine⟨?_,fun s hs=>?_⟩
 ·cases b with
  |nil=>exact absurd rfl hne
  |cons x r=>simp [encL]
 ·obtain⟨x,hx,hs⟩:=List.mem_flatMap.1 hs
  have hG:=hg x hx
  rcases List.mem_cons.1 hs with rfl|hs
  ·exact⟨q2j x,q8k hG.kind⟩
  ·obtain⟨h1,t,ht⟩:=q1j hG.good s hs
   exact⟨h1,[32]++t,by rw [← ht];rfl⟩
theorem q9d {L:List qc} (h:SpL L):sp true (q6 L)=true:=by
 rw [← qht _ (q6 L) (Nat.le_refl _),qcp L fun s hs=>(h.2 s hs).1]
 intro x hx
 obtain⟨s,hs,rfl⟩:=List.mem_map.1 hx
 exact (h.2 s hs).2
theorem q3t {L:List qc} (h:SpL L):(q6 L)[0]? = some 32:=by
 obtain⟨hne,hs⟩:=h
 cases L with
 |nil=>exact absurd rfl hne
 |cons s r=>
  obtain⟨t,ht⟩:=(hs s (by simp)).2
  rw [yi,← ht]
  rfl
theorem qrn:∀ (L:List qc),L≠[]→(q6 L).getLast? = some 10
 | [],h=>absurd rfl h
 | [s],_=>by rw [yi];simp [q6]
 |s::t::r,_=>by
  have ih:=qrn (t::r) (by simp)
  have hne:q6 (t::r)≠[]:=fun e=>by rw [e] at ih;simp at ih
  rw [yi,List.getLast?_append,List.getLast?_cons,ih]
  simp
theorem q12 {b:List qr} (he:eErr b = .no) (hB:∀ x∈b,EdB x) (hl:(encF b).length≤50000):qde (encF b):=by
 obtain⟨h1,h40,hg⟩:=qg2 he
 have hG:∀ y∈b,EncG y:=fun y hy=>q70 (hg y hy) (hB y hy)
 have hne:b≠[]:=fun e=>by subst e;simp at h1
 have hS:=q71 hne hG
 have ht:=q11 hG
 have hh:=q3t hS
 have hlast:=qrn _ hS.1
 rw [← ht] at hh hlast
 have hsp:=q9d hS
 rw [← ht] at hsp
 refine⟨?_,hl,hlast,by rw [qfv];exact hsp⟩
 rcases hc:encF b with _ | ⟨c,_ | ⟨d,r⟩⟩
 ·rw [hc] at hh;simp at hh
 ·rw [hc] at hh hlast
  simp at hh hlast
  rw [hh] at hlast
  simp at hlast
 ·simp
def OutG (out:List qr) (m:Nat):Prop:=∀ x∈out,(∀ f∈x.fields,jm f)∧x.fields.length≤m∧-9223372036854775808≤x.id∧x.id≤9223372036854775807
theorem OutG.mono {out:List qr} {m m':Nat} (h:OutG out m) (hm:m≤m'):OutG out m':=fun x hx=>⟨(h x hx).1,by have:=(h x hx).2.1;omega,(h x hx).2.2⟩
end Go.Pl
namespace Go.Pl
open Go Go.Proofs
def j5:List (qc×Bool)→List qc
 | []=>[]
 |(t,_)::r=>if qm t=3 then t::j5 r else []
def jf (prev:Bool) (t:qc) (e:Bool) (r:List (qc×Bool)) (fields:Nat) (records:Int):Int:=
 if qm t=5∨(qm t=3∧prev=false)∨e=false then 2
 else if qm t≠4 then 0
 else if (ja (t::j5 r)).2≠0 then (ja (t::j5 r)).2
 else if 40≤fields∨(fields=0∧400≤records) then 11 else 0
theorem qwf {α : Type} {l:List α} {x : α} (h:l.getLast? = some x):l.dropLast++[x]=l:=by
 have hne:l≠[]:=fun e=>by subst e;simp at h
 rw [List.getLast?_eq_some_getLast hne] at h
 obtain rfl:=Option.some.inj h
 exact List.dropLast_concat_getLast hne
def outR (now:qu) (out:List qu):List qu:=if now.raw=[] then out else out++[now]
def refL:Nat→List (qc×Bool)→Bool→qu→Int→List qu→Option (Int×Int)×List qu
 | _,[],_,now,_,out=>(none,outR now out)
 |i,(t,e)::r,prev,now,rec,out=>
  if jf prev t e r now.fields.length rec≠0 then (some ((i:Int),jf prev t e r now.fields.length rec),[])
  else if qm t=1 then refL (i+1) r false ⟨2,[],[]⟩ rec (outR now out++[⟨1,t++[10],[]⟩])
  else if qm t=4 then refL (i+1) r true ⟨3,now.raw++t++[10],now.fields++[(ja (t::j5 r)).1]⟩ (if now.kind=2 then rec+1 else rec) out
  else refL (i+1) r (decide (qm t=3)) ⟨now.kind,now.raw++t++[10],now.fields⟩ rec out
def qr5:List (qc×Bool)→Prop
 | []=>True
 |(_,e)::r=>(e=false→r=[])∧qr5 r
theorem qk8:∀ (n:Nat) (l:qc),l.length≤n→qr5 (zj l)
 | 0,l,h=>by
  have:l=[]:=List.length_eq_zero_iff.1 (by omega)
  subst this
  rw [vg]
  trivial
 |n+1,l,h=>by
  by_cases hl:l=[]
  ·subst hl
   rw [vg]
   trivial
  ·rw [wq hl]
   refine⟨fun he=>?_,qk8 n _ (by have:=x7 (c:=10) hl;omega)⟩
   have h10:10∉l:=by simpa using he
   have:past 10 l=[]:=by
    unfold past
    rw [qda h10]
    exact List.drop_eq_nil_of_le (by omega)
   rw [this,vg]
def qbf (ls:List qc) (full:Bool):Int:=if (ja ls).2≠0 then (ja ls).2 else if full=true then 11 else 0
theorem qec {p:PSt} (h:p.lines≠[]) (hc:qbf p.lines p.full≠0):(z4 p).1=some (p.frm,qbf p.lines p.full):=by
 unfold qbf at *
 unfold z4
 rw [if_neg h]
 by_cases h1:(ja p.lines).2≠0
 ·rw [if_pos h1,if_pos h1]
 ·rw [if_neg h1] at hc ⊢
  rw [if_neg h1]
  by_cases h2:p.full=true
  ·rw [if_pos h2,if_pos h2]
  ·rw [if_neg h2] at hc
   exact absurd rfl hc
theorem qqs {p:PSt} (h:p.lines=[]∨qbf p.lines p.full=0):z4 p=(none,{ p with lines:=[],fields:=p.fields++(if p.lines=[] then [] else [(ja p.lines).1]) }):=by
 unfold z4
 by_cases h0:p.lines=[]
 ·rw [if_pos h0,if_pos h0]
  obtain⟨a,b,c,d,e,f,g⟩:=p
  simp only at h0
  subst h0
  simp
 ·rw [if_neg h0,if_neg h0]
  have h:=h.resolve_left h0
  unfold qbf at h
  by_cases h1:(ja p.lines).2≠0
  ·rw [if_pos h1] at h
   exact absurd h h1
  ·rw [if_neg h1] at h ⊢
   by_cases h2:p.full=true
   ·rw [if_pos h2] at h
    simp at h
   ·rw [if_neg h2]
theorem qmd {p:PSt} {no:Int} {t:qc} {e:Bool} {x:Int×Int} (h:(zt p no t e (qm t)).1=some x):(vc p no t e).1=some x:=by
 unfold vc
 rw [h]
theorem qme {p q:PSt} {no:Int} {t:qc} {e:Bool} (h:zt p no t e (qm t)=(none,q)) (hc:qm t=5∨e=false):(vc p no t e).1=some (no,2):=by
 unfold vc
 rw [h]
 simp only
 rw [if_pos hc]
theorem qha {p q:PSt} {no:Int} {t:qc} (h:zt p no t true (qm t)=(none,q)) (hc:qm t≠5):vc p no t true =
  if qm t=1 then (none,{ q with items:=q.items++[⟨1,t++[10],[]⟩] }) else if qm t=4 then (none,{ jk q no t with block:=q.block++[t] }) else (none,{ q with block:=q.block++[t] }):=by
 unfold vc
 rw [h]
 simp only
 rw [if_neg (by simp [hc])]
theorem qcc {k:Nat} {t:qc} {e:Bool} {r:List (qc×Bool)} {p:PSt} {x:Int×Int} (h:(vc p k t e).1=some x):(runL k ((t,e)::r) p).1=some x:=by
 rw [runL,h]
theorem qdv {k:Nat} {t:qc} {e:Bool} {r:List (qc×Bool)} {p q:PSt} (h:vc p k t e=(none,q)):runL k ((t,e)::r) p=runL (k+1) r q:=by
 rw [runL,h]
theorem qmm {p:PSt} {no:Int} {t:qc} (hk:qm t=3) (hl:p.lines≠[]):zt p no t true (qm t)=(none,{ p with lines:=p.lines++[t] }):=by
 unfold zt
 rw [if_pos hk,if_neg hl,if_pos rfl]
theorem qml {p:PSt} {no:Int} {t:qc} (hk:qm t=3) (hl:p.lines≠[]):zt p no t false (qm t)=z4 { p with lines:=p.lines++[t] }:=by
 unfold zt
 rw [if_pos hk,if_neg hl,if_neg (by simp)]
theorem qdd {p:PSt} {no:Int} {t:qc} {e:Bool} (hk:qm t≠3) (h1:qm t≠1):zt p no t e (qm t)=z4 p:=by
 unfold zt
 rw [if_neg hk,if_neg h1]
theorem qgd {p:PSt} {no:Int} {t:qc} {e:Bool} (h1:qm t=1):zt p no t e (qm t)=endP p:=by
 unfold zt
 rw [if_neg (by omega),if_pos h1]
theorem qnz {t:qc} {e:Bool} {r:List (qc×Bool)} (h:qm t≠3):j5 ((t,e)::r)=[]:=by
 rw [j5,if_neg h]
theorem qgp {t:qc} {e:Bool} {r:List (qc×Bool)} (h:qm t=3):j5 ((t,e)::r)=t::j5 r:=by
 rw [j5,if_pos h]
theorem qtl {p:PSt} {x:Int×Int} (h:(z4 p).1=some x):(endP p).1=some x:=by
 unfold endP
 rw [h]
theorem qpa {p q:PSt} (h:z4 p=(none,q)):endP p=(none,wj q):=by
 unfold endP
 rw [h]
theorem qu0:∀ (r:List (qc×Bool)) (p:PSt) (k:Nat) (c:Int),qr5 r→p.lines≠[]→qbf (p.lines++j5 r) p.full=c→c≠0→(runL k r p).1=some (p.frm,c)
 | [],p,k,c,_,hl,hc,h0=>by
  rw [j5,List.append_nil] at hc
  rw [runL]
  subst hc
  exact qtl (qec hl h0)
 |(t,e)::r,p,k,c,hE,hl,hc,h0=>by
  by_cases h3:qm t=3
  ·rw [qgp h3] at hc
   cases e with
   |true=>
    have ht:=qha (qmm (no:=k) h3 hl) (by omega)
    rw [if_neg (by omega),if_neg (by omega)] at ht
    rw [qdv ht]
    exact qu0 r _ (k+1) c hE.2 (by simp) (by simpa using hc) h0
   |false=>
    have hr:=hE.1 rfl
    subst hr
    refine qcc (qmd ?_)
    rw [qml h3 hl]
    have hc':qbf (p.lines++[t]) p.full=c:=hc
    have:=qec (p:={ p with lines:=p.lines++[t] }) (by simp) (by simp only;rw [hc'];exact h0)
    simp only at this
    rw [this,hc']
  ·rw [qnz h3,List.append_nil] at hc
   subst hc
   refine qcc (qmd ?_)
   by_cases h1:qm t=1
   ·rw [qgd h1]
    exact qtl (qec hl h0)
   ·rw [qdd h3 h1]
    exact qec hl h0
structure Sim (r:List (qc×Bool)) (p:PSt) (prev:Bool) (now:qu) (rec:Int) (out:List qu):Prop where
 hprev:prev=decide (p.lines≠[])
 hok:p.lines=[]∨qbf (p.lines++j5 r) p.full=0
 hraw:now.raw=q6 p.block
 hfields:now.fields=p.fields++(if p.lines=[] then [] else [(ja (p.lines++j5 r)).1])
 hkind:now.kind=if now.fields=[] then 2 else 3
 hrec:rec=p.records+if now.fields=[] then 0 else 1
 hout:out=p.items
 hempty:p.block=[]→p.lines=[]∧p.fields=[]
 b1:now.fields.length≤40
 b2:rec≤400
theorem q3s (b:List qc):q6 b=[]↔b=[]:=by
 cases b with
 |nil=>simp [q6]
 |cons x r=>simp [q6]
theorem qii (b:List qc) (t:qc):q6 (b++[t])=q6 b++t++[10]:=by simp [q6]
theorem Sim.flush {r:List (qc×Bool)} {p:PSt} {prev:Bool} {now:qu} {rec:Int} {out:List qu} (h:Sim r p prev now rec out) (hm:j5 r=[]):z4 p=(none,{ p with lines:=[],fields:=now.fields }):=by
 have h1:=h.hok
 have h2:=h.hfields
 rw [hm,List.append_nil] at h1 h2
 rw [qqs h1,h2]
theorem Sim.close {r:List (qc×Bool)} {p:PSt} {prev:Bool} {now:qu} {rec:Int} {out:List qu} (h:Sim r p prev now rec out) (hm:j5 r=[]):wj { p with lines:=[],fields:=now.fields }={ p with lines:=[],fields:=[],block:=[],items:=outR now out,records:=rec }:=by
 have hk:=h.hkind
 have hr:=h.hrec
 have hw:=h.hraw
 have ho:=h.hout
 unfold wj outR
 simp only
 by_cases hb:p.block=[]
 ·obtain⟨e1,e2⟩:=h.hempty hb
  have hf:now.fields=[]:=by rw [h.hfields,e1,e2];simp
  rw [if_pos hb,if_pos (by rw [hw,hb];rfl),ho,hr,hf]
  simp
 ·have hne:¬ now.raw=[]:=by rw [hw,q3s];exact hb
  rw [if_neg hb,if_neg hne,ho,hr,← hw]
  obtain⟨nk,nr,nf⟩:=now
  simp only at hk hne ⊢
  by_cases hf:nf=[]
  ·rw [if_pos hf] at hk
   simp [hf,hk,hne]
  ·rw [if_neg hf] at hk
   simp [hf,hk,hne]
theorem qg7:∀ (r:List (qc×Bool)) (k:Nat) (p:PSt) (prev:Bool) (now:qu) (rec:Int) (out:List qu),qr5 r→Sim r p prev now rec out →
  refL k r prev now rec out=match (runL k r p).1 with
   |some e=>(some e,[])
   |none=>(none,(runL k r p).2.items)
 | [],k,p,prev,now,rec,out,_,h=>by
  rw [runL,qpa (h.flush rfl),h.close rfl,refL]
 |(t,e)::r,k,p,prev,now,rec,out,hE,h=>by
  rw [refL]
  by_cases h3:qm t=3
  ·by_cases hl:p.lines=[]
   ·have hp:prev=false:=by rw [h.hprev];simp [hl]
    have hw:jf prev t e r now.fields.length rec=2:=by
     unfold jf
     rw [if_pos (.inr (.inl ⟨h3,hp⟩))]
    rw [hw,if_pos (by decide),qcc (x:=((k:Int),2)) (qmd (by unfold zt;rw [if_pos h3,if_pos hl]))]
   ·cases e with
    |true=>
     have hp:prev=true:=by rw [h.hprev];simp [hl]
     have hw:jf prev t true r now.fields.length rec=0:=by
      unfold jf
      rw [if_neg (by simp [hp];omega),if_pos (by omega)]
     have ht:=qha (qmm (no:=k) h3 hl) (by omega)
     rw [if_neg (by omega),if_neg (by omega)] at ht
     rw [hw,if_neg (by simp),if_neg (by omega),if_neg (by omega),qdv ht]
     have hm:=qgp (e:=true) (r:=r) h3
     have hok:=h.hok.resolve_left hl
     have hfs:=h.hfields
     rw [if_neg hl,hm] at hfs
     rw [hm] at hok
     refine qg7 r (k+1) _ _ _ _ _ hE.2 ⟨by simp [h3],.inr (by simpa using hok),by rw [qii,← h.hraw],by simp [hfs],h.hkind,h.hrec,h.hout,by simp,h.b1,h.b2⟩
    |false=>
     have hr:=hE.1 rfl
     subst hr
     have hw:jf prev t false [] now.fields.length rec=2:=by
      unfold jf
      rw [if_pos (.inr (.inr rfl))]
     have hok:=h.hok.resolve_left hl
     rw [qgp h3] at hok
     have hf:=qqs (p:={ p with lines:=p.lines++[t] }) (.inr hok)
     rw [hw,if_pos (by decide),qcc (x:=((k:Int),2)) (qme ((qml h3 hl).trans hf) (.inr rfl))]
  ·have hm:=qnz (e:=e) (r:=r) h3
   have hf:=h.flush hm
   have hc:=h.close hm
   by_cases hbad:qm t=5∨e=false
   ·have hw:jf prev t e r now.fields.length rec=2:=by
     unfold jf
     rw [if_pos (by rcases hbad with h|h;exact .inl h;exact .inr (.inr h))]
    rw [hw,if_pos (by decide)]
    by_cases h1:qm t=1
    ·rw [qcc (x:=((k:Int),2)) (qme ((qgd h1).trans (qpa hf)) hbad)]
    ·rw [qcc (x:=((k:Int),2)) (qme ((qdd h3 h1).trans hf) hbad)]
   ·have he:e=true:=by
     cases e with
     |true=>rfl
     |false=>exact absurd (.inr rfl) hbad
    have h5:qm t≠5:=fun h=>hbad (.inl h)
    subst he
    by_cases h1:qm t=1
    ·have hw:jf prev t true r now.fields.length rec=0:=by
      unfold jf
      rw [if_neg (by simp [h3,h5]),if_pos (by omega)]
     have ht:=qha ((qgd (no:=k) h1).trans (qpa hf)) h5
     rw [if_pos h1,hc] at ht
     rw [hw,if_neg (by simp),if_pos h1,qdv ht]
     exact qg7 r (k+1) _ _ _ _ _ hE.2 ⟨by simp,.inl rfl,rfl,by simp,by simp,by simp,rfl,by simp,by simp,h.b2⟩
    ·by_cases h4:qm t=4
     ·have ht:=qha ((qdd (no:=k) h3 h1).trans hf) h5
      rw [if_neg h1,if_pos h4] at ht
      rw [qdv ht]
      have hb1:=h.b1
      have hb2:=h.b2
      have hrec:=h.hrec
      have hfull:(40≤now.fields.length∨(now.fields.length=0∧400≤rec))↔(now.fields.length=40∨(now.fields.length=0∧p.records=400)):=by
       by_cases hz:now.fields=[]
       ·rw [if_pos hz] at hrec
        simp only [hz,List.length_nil]
        constructor
        ·rintro (h'|h')
         ·exact absurd h' (by decide)
         ·exact .inr ⟨trivial,by omega⟩
        ·rintro (h'|h')
         ·exact absurd h' (by decide)
         ·exact .inr ⟨trivial,by omega⟩
       ·have:now.fields.length≠0:=fun h=>hz (List.length_eq_zero_iff.1 h)
        constructor
        ·rintro (h'|h')
         ·exact .inl (by omega)
         ·exact absurd h'.1 this
        ·rintro (h'|h')
         ·exact .inl (by omega)
         ·exact absurd h'.1 this
      have hw:jf prev t true r now.fields.length rec=qbf (t::j5 r) (decide (now.fields.length=40∨(now.fields.length=0∧p.records=400))):=by
       unfold jf qbf
       rw [if_neg (by simp [h3,h5]),if_neg (by omega)]
       by_cases hu:(ja (t::j5 r)).2≠0
       ·rw [if_pos hu,if_pos hu]
       ·rw [if_neg hu,if_neg hu]
        by_cases hx:40≤now.fields.length∨(now.fields.length=0∧400≤rec)
        ·rw [if_pos hx,if_pos (decide_eq_true (hfull.1 hx))]
        ·rw [if_neg hx,if_neg (by simpa using fun h=>hx (hfull.2 h))]
      by_cases hw0:jf prev t true r now.fields.length rec=0
      ·rw [if_neg (by simp [hw0]),if_neg h1,if_pos h4]
       have hx:¬ (40≤now.fields.length∨(now.fields.length=0∧400≤rec)):=fun hx=>by
        unfold jf at hw0
        rw [if_neg (by simp [h3,h5]),if_neg (by omega)] at hw0
        by_cases hu:(ja (t::j5 r)).2≠0
        ·rw [if_pos hu] at hw0;exact hu hw0
        ·rw [if_neg hu,if_pos hx] at hw0;simp at hw0
       rw [hw] at hw0
       refine qg7 r (k+1) _ _ _ _ _ hE.2 ⟨by simp [jk],.inr hw0,by simp only [jk];rw [qii,← h.hraw],by simp [jk],by simp,?_,h.hout,by simp [jk],by simp;omega,?_⟩
       ·have hkd:=h.hkind
        simp only [jk]
        by_cases hz:now.fields=[]
        ·rw [if_pos hz] at hrec hkd
         rw [hkd]
         simp
         omega
        ·rw [if_neg hz] at hrec hkd
         rw [hkd]
         simp
         omega
       ·rw [h.hkind]
        by_cases hz:now.fields=[]
        ·have:now.fields.length=0:=by rw [hz];rfl
         rw [if_pos hz,if_pos rfl]
         omega
        ·rw [if_neg hz,if_neg (by decide)]
         exact hb2
      ·rw [if_pos hw0]
       have:=qu0 r { jk { p with lines:=[],fields:=now.fields } k t with block:=p.block++[t] } (k+1) (jf prev t true r now.fields.length rec) hE.2 (by simp [jk]) hw.symm hw0
       simp only [jk] at this ⊢
       rw [this]
     ·have hw:jf prev t true r now.fields.length rec=0:=by
       unfold jf
       rw [if_neg (by simp [h3,h5]),if_pos h4]
      have ht:=qha ((qdd (no:=k) h3 h1).trans hf) h5
      rw [if_neg h1,if_neg h4] at ht
      rw [hw,if_neg (by simp),if_neg h1,if_neg h4,qdv ht]
      exact qg7 r (k+1) _ _ _ _ _ hE.2 ⟨by simp [h3],.inl rfl,by rw [qii,← h.hraw],by simp,h.hkind,h.hrec,h.hout,by simp,h.b1,h.b2⟩
theorem qbk (text:qc):refL 0 (zj text) false ⟨2,[],[]⟩ 0 []=jw text:=by
 unfold jw
 exact qg7 (zj text) 0 p0 false ⟨2,[],[]⟩ 0 [] (qk8 _ text (Nat.le_refl _)) ⟨by simp [p0],.inl rfl,rfl,by simp [p0],by simp,by simp [p0],rfl,by simp [p0],by simp,by omega⟩
end Go.Pl
namespace Go.Pl
open Go Go.Proofs Go.Proofs.YtejoahlpbckbeaaGreatDoor
def genL:qc:=[35,37,103,101,110,32]
def qan (n:Int):qc:=genL++Lib.itoa n++[10,10]
def qcm (n:Int):Prop:=1≤n∧n≤2147483648
instance (n:Int):Decidable (qcm n):=inferInstanceAs (Decidable (_∧_))
def yp (text:qc):Int×qc:=
 if genL <+: text then
  match numZ (upto 10 (text.drop 6)) with
  |some n=>if qcm n∧[10,10] <+: text.drop (6+(upto 10 (text.drop 6)).length) then (n,text.drop (8+(upto 10 (text.drop 6)).length)) else (0,text)
  |none=>(0,text)
 else (0,text)
theorem qnt (v:Int):(10:UInt8)∉Lib.itoa v:=by
 intro h
 by_cases hv:v<0
 ·rw [qhq hv] at h
  rcases List.mem_cons.1 h with h|h
  ·simp at h
  ·have:=v4 _ _ (Nat.le_refl _) _ h
   simp at this
 ·rw [qhr (by omega)] at h
  have:=v4 _ _ (Nat.le_refl _) _ h
  simp at this
theorem qua (n:Int) (r:qc):qan n++r=genL++(Lib.itoa n++10::10::r):=by simp [qan]
theorem qig {n:Int} (h:qcm n) (r:qc):yp (qan n++r)=(n,r):=by
 unfold yp
 have hd:(genL++(Lib.itoa n++10::10::r)).drop 6=Lib.itoa n++10::10::r:=by rw [show (6:Nat)=genL.length by rfl,List.drop_left]
 rw [qua,if_pos (List.prefix_append _ _),hd,qb1 _ (qnt n),q2n (by have:=h.1;omega) (by have:=h.2;omega)]
 have e1:(genL++(Lib.itoa n++10::10::r)).drop (6+(Lib.itoa n).length)=10::10::r:=by rw [← List.drop_drop,hd,List.drop_left]
 have e2:(genL++(Lib.itoa n++10::10::r)).drop (8+(Lib.itoa n).length)=r:=by
  rw [show 8+(Lib.itoa n).length=(6+(Lib.itoa n).length)+2 by omega,← List.drop_drop,e1]
  rfl
 simp only
 rw [e1,e2,if_pos ⟨h,r,rfl⟩]
theorem qrk {text:qc} (h:∀ n r,qcm n→text≠qan n++r):yp text=(0,text):=by
 unfold yp
 split
 ·rename_i hp
  obtain⟨t,rfl⟩:=hp
  have hd:(genL++t).drop 6=t:=by rw [show (6:Nat)=genL.length by rfl,List.drop_left]
  rw [hd]
  split
  ·rename_i n hn
   split
   ·rename_i hc
    obtain⟨hg,r,hr⟩:=hc
    rw [← List.drop_drop,hd] at hr
    obtain⟨he,_⟩:=q2o hn
    refine absurd ?_ (h n r hg)
    rw [qua,← he]
    congr 1
    conv=>lhs;rw [← List.take_append_drop (upto 10 t).length t,qgb,← hr]
    rfl
   ·rfl
  ·rfl
 ·rfl
theorem qw8 (text:qc):(∃ n r,qcm n∧text=qan n++r∧yp text=(n,r))∨((∀ n r,qcm n→text≠qan n++r)∧yp text=(0,text)):=by
 by_cases h:∃ n r,qcm n∧text=qan n++r
 ·obtain⟨n,r,hg,rfl⟩:=h
  exact .inl ⟨n,r,hg,rfl,qig hg r⟩
 ·have h':∀ n r,qcm n→text≠qan n++r:=fun n r hg e=>h ⟨n,r,hg,e⟩
  exact .inr ⟨h',qrk h'⟩
def y8 (n:Int):qc:=if qcm n then qan n else []
theorem qw9 (text:qc):text=y8 (yp text).1++(yp text).2∧((yp text).1=0∨qcm (yp text).1):=by
 rcases qw8 text with⟨n,r,hg,he,ht⟩ | ⟨_,ht⟩
 ·rw [ht]
  simp only
  unfold y8
  rw [if_pos hg]
  exact⟨he,.inr hg⟩
 ·rw [ht]
  exact⟨rfl,.inl rfl⟩
def begF (l:qc):Bool:=decide (l.head? = some 37∧qm l=5)
def q1i (n:Nat) (l:qc):Nat:=if h:l=[] then n else if begF (upto 10 l)=true then n - l.length else q1i n (past 10 l)
 termination_by l.length
 decreasing_by exact x7 h
theorem qeg:∀ (r:List (qc×Bool)) (k:Nat) (prev:Bool) (now:qu) (rec:Int) (out:List qu),(refL k r prev now rec out).1=none→∀ x∈r,qm x.1≠5∧x.2=true
 | [],_,_,_,_,_,_=>by simp
 |(t,e)::r,k,prev,now,rec,out,h=>by
  rw [refL] at h
  split at h
  ·simp at h
  ·rename_i hw
   have hx:qm t≠5∧e=true:=by
    unfold jf at hw
    split at hw
    ·simp at hw
    ·rename_i hc
     exact⟨fun h5=>hc (.inl h5),by cases e with|true=>rfl|false=>exact absurd (.inr (.inr rfl)) hc⟩
   have hr:∀ x∈r,qm x.1≠5∧x.2=true:=by
    split at h
    ·exact qeg r _ _ _ _ _ h
    ·split at h
     ·exact qeg r _ _ _ _ _ h
     ·exact qeg r _ _ _ _ _ h
   intro x hx'
   rcases List.mem_cons.1 hx' with rfl|hx'
   ·exact hx
   ·exact hr x hx'
theorem qwz {text:qc} (h:(jw text).1=none):∀ x∈zj text,begF x.1=false∧x.2=true:=fun x hx=>by
 rw [← qbk] at h
 obtain⟨h1,h2⟩:=qeg _ _ _ _ _ _ h x hx
 exact⟨by simp [begF,h1],h2⟩
theorem qfq {n:Nat} {fig l:qc} (hf:yt fig) (h:l <+: xh n fig) (hne:l≠[]):begF l=true:=by
 have h10:10∉l:=qkk h (qcn n hf)
 have h58:(58:UInt8)∉l:=qkk h fun h'=>by
  unfold xh at h'
  rcases List.mem_append.1 h' with h'|h'
  ·revert h';decide
  ·rcases List.mem_append.1 h' with h'|h'
   ·exact qn4 n (by decide) h'
   ·rcases List.mem_cons.1 h' with h'|h'
    ·simp at h'
    ·exact qjd hf (by decide) h'
 obtain⟨c,q,rfl⟩:=List.exists_cons_of_ne_nil hne
 have hc:c=37:=by
  obtain⟨t,ht⟩:=h
  unfold xh kv at ht
  exact (List.cons.inj ht).1
 subst hc
 have hk:=qwq h10 (fun hb=>by
  have:=hb 37 (by simp)
  revert this
  decide)
 simp only [begF,List.head?_cons,true_and,decide_eq_true_eq]
 rw [hk.2]
 rw [if_neg (by simp),if_neg (by simp [wm]),if_neg (fun h=>h58 h.1)]
theorem q1h {n:Nat} {fig body l:qc} (hf:yt fig) (h:l <+: recL n fig body) (hne:l≠[]):begF (upto 10 l)=true:=by
 rcases qre (show l <+: xh n fig++10::(body++qek n) from h) with h | ⟨r,rfl,hr⟩
 ·rw [qda (qkk h (qcn n hf))]
  exact qfq hf h hne
 ·cases r with
  |nil=>
   rw [List.append_nil,qda (qcn n hf)]
   exact qfq hf (List.prefix_refl _) (by simp [xh,kv])
  |cons c r=>
   have:c=10:=by obtain⟨t,ht⟩:=hr;exact (List.cons.inj ht).1
   subst this
   rw [qb1 _ (qcn n hf)]
   exact qfq hf (List.prefix_refl _) (by simp [xh,kv])
theorem q7d {b:qc} (x:qc) (hg:qde b):begF (upto 10 (recF b++x))=true:=by
 rw [q83]
 have hx:yt (sumF b):=qwl (addP 0 b)
 unfold recL
 rw [List.append_assoc,List.cons_append,qb1 _ (qcn _ hx)]
 exact qfq hx (List.prefix_refl _) (by simp [xh,kv])
structure qcg where
 gen:Int
 base:qc
 batches:List (List qr)
 ends : List Int
 tail:qc
def qyu:qcg:=⟨0,[],[],[],[]⟩
def zx (text:qc):ErrV:=if 60000<text.length then .num 1 else match (jw text).1 with
 |none=>.no
 |some (a,n)=>.at' a n
def recsF:Nat→qc→Int→List (List qr)→List Int→Bool×List (List qr)×List Int×qc
 | 0,l,_,bs,es=>(false,bs,es,l)
 |f+1,l,a,bs,es=>
  if (xl l).1=2 then (false,bs,es,l)
  else if (xl l).1=1 then match decF (xl l).2.1 with
   |some b=>recsF f (l.drop (xl l).2.2.toNat) (a+(xl l).2.2) (bs++[b]) (es++[a+(xl l).2.2])
   |none=>(true,bs,es,l)
  else (true,bs,es,l)
def qoj (text:qc):qc:=(yp text).2
def atH (text:qc):Nat:=q1i (qoj text).length (qoj text)
def q6o (text:qc):qc:=(qoj text).take (atH text)
def qof (text:qc):Bool×List (List qr)×List Int×qc:=recsF (text.length+1) ((qoj text).drop (atH text)) (((text.length - (qoj text).length+atH text:Nat)):Int) [] []
def q6p (text:qc):ErrV×qcg:=
 if 120000<text.length then (.num 1,qyu)
 else match zx (q6o text) with
  | .no=>if (qof text).1=true then (.at' (qof text).2.1.length 10,qyu) else (.no,⟨(yp text).1,q6o text,(qof text).2.1,(qof text).2.2.1,(qof text).2.2.2⟩)
  |e=>(e,qyu)
structure qj5 (b:List qr):Prop where
 ok:eErr b = .no
 B:∀ x∈b,EdB x
 len:(encF b).length≤50000
theorem qj5.good {b:List qr} (h:qj5 b):qde (encF b):=q12 h.ok h.B h.len
def recE (b:List qr):qc:=recF (encF b)
def x4 (bs:List (List qr)):qc:=bs.flatMap recE
def qbq (a:Int):List (List qr)→List Int
 | []=>[]
 |b::r=>(a+(recE b).length)::qbq (a+(recE b).length) r
theorem qh5 (b:List qr) (r:List (List qr)):x4 (b::r)=recE b++x4 r:=rfl
theorem qz8 (r:List (List qr)) (b:List qr):x4 (r++[b])=x4 r++recE b:=by simp [x4]
theorem qng:∀ (r:List (List qr)) (a:Int) (b:List qr),qbq a (r++[b])=qbq a r++[a+(x4 r).length+(recE b).length]
 | [],a,b=>by simp [qbq,x4]
 |x::r,a,b=>by
  rw [List.cons_append,qbq,qbq,qng r,qh5]
  simp
  omega
theorem qnf:∀ (r:List (List qr)) (a:Int),r≠[]→(qbq a r).getLast? = some (a+(x4 r).length)
 | [],_,h=>absurd rfl h
 | [x],a,_=>by simp [qbq,x4]
 |x::y::r,a,_=>by
  have:=qnf (y::r) (a+(recE x).length) (by simp)
  rw [qbq,List.getLast?_cons]
  rw [this,qh5 x]
  simp
  omega
structure qai (text:qc) (b:qcg):Prop where
 txt:text=y8 b.gen++(b.base++(x4 b.batches++b.tail))
 gen:yp text=(b.gen,b.base++(x4 b.batches++b.tail))
 parse:zx b.base = .no
 good:∀ x∈b.batches,qj5 x
 tail:(xl b.tail).1=2
 ends : b.ends = qbq ((y8 b.gen).length + b.base.length) b.batches
 len:text.length≤120000
def BegP (x:qc):Prop:=x=[]∨begF (upto 10 x)=true
theorem q1g {t:qc} (h:(xl t).1=2):BegP t:=by
 by_cases h0:t=[]
 ·exact .inl h0
 ·obtain⟨n,fig,body,R,hp,_⟩:=q8t h
  obtain⟨_,_,_,_,_,hx⟩:=R
  exact .inr (q1h hx hp h0)
theorem q1f {bs:List (List qr)} {t:qc} (hg:∀ b∈bs,qj5 b) (h:(xl t).1=2):BegP (x4 bs++t):=by
 cases bs with
 |nil=>exact q1g h
 |cons b r=>
  refine .inr ?_
  rw [qh5,List.append_assoc]
  exact q7d _ (hg b (by simp)).good
theorem q1e {x:qc} (h:BegP x):x=[]∨x.head? = some 37:=by
 rcases h with h|h
 ·exact .inl h
 ·simp only [begF,decide_eq_true_eq] at h
  cases x with
  |nil=>exact .inl rfl
  |cons c r=>
   refine .inr ?_
   have h1:=h.1
   unfold upto at h1
   by_cases hc:c=10
   ·subst hc;simp at h1
   ·simpa [hc] using h1
theorem quw {l:qc} (h:zx l = .no):(∀ p∈zj l,begF p.1=false∧p.2=true)∧l.length≤60000:=by
 unfold zx at h
 split at h
 ·simp at h
 ·split at h
  ·rename_i hp
   exact⟨qwz hp,by omega⟩
  ·simp at h
def qaz (b:qcg):qc:=y8 b.gen++(b.base++x4 b.batches)
def qj1 (b:qcg):Int:=match b.ends.getLast? with
 |some e=>e
 |none=>((y8 b.gen).length+b.base.length:Nat)
theorem qai.split {text:qc} {b:qcg} (h:qai text b):text=qaz b++b.tail:=by
 have:=h.txt
 unfold qaz
 simpa using this
theorem qai.whole {text:qc} {b:qcg} (h:qai text b):qj1 b=((qaz b).length:Int):=by
 unfold qj1
 rw [h.ends]
 by_cases h0:b.batches=[]
 ·rw [h0]
  simp [qbq,qaz,h0,x4]
 ·rw [qnf _ _ h0]
  simp [qaz]
  omega
theorem qai.take {text:qc} {b:qcg} (h:qai text b):text.take (qj1 b).toNat=qaz b:=by
 rw [h.whole,Int.toNat_natCast]
 conv=>lhs;rw [h.split]
 rw [List.take_left]
theorem qzm {l:qc} (h:l≠[]) (hp:∀ p∈zj l,p.2=true):l.getLast? = some 10:=by
 have:∀ (k:Nat) (l:qc),l.length≤k→l≠[]→(∀ p∈zj l,p.2=true)→l.getLast? = some 10:=by
  intro k
  induction k with
  |zero=>intro l hl h0;exact absurd (List.length_eq_zero_iff.1 (by omega)) h0
  |succ k ih=>
   intro l hl h0 hp
   rw [wq h0] at hp
   have h10:10∈l:=by simpa using hp _ (List.mem_cons_self ..)
   have e:=qcf h10
   by_cases hq:past 10 l=[]
   ·rw [hq] at e
    rw [e]
    simp
   ·have:=ih (past 10 l) (by have:=x7 (c:=10) h0;omega) hq fun p hp'=>hp p (by simp [hp'])
    rw [e]
    rw [List.getLast?_append,List.getLast?_cons,this]
    simp
 exact this _ l (Nat.le_refl _) h hp
theorem q74 {l x:qc} {n:Int} (h:∀ p∈zj l,p.2=true) (hx:x=[]∨x.head? = some 37) (hp:qan n <+: l++x):qan n <+: l:=by
 rcases qre hp with h1 | ⟨r,h1,hr⟩
 ·exact h1
 ·by_cases hr0:r=[]
  ·rw [h1,hr0,List.append_nil]
   exact List.prefix_refl _
  ·exfalso
   obtain⟨c,q,rfl⟩:=List.exists_cons_of_ne_nil hr0
   have hc:c=37:=by
    obtain⟨t,ht⟩:=hr
    rcases hx with rfl|hx
    ·simp at ht
    ·rw [← ht] at hx
     simpa using hx
   subst hc
   by_cases hl:l=[]
   ·rw [hl] at h1
    simp [qan,genL] at h1
   ·have hlast:=qzm hl h
    obtain⟨q0,hq0⟩:∃ q0,l=q0++[10]:=by
     have:=qwf hlast
     exact⟨_,this.symm⟩
    have e:genL++Lib.itoa n++10::[10]=q0++10::(37::q):=by
     have:=h1
     unfold qan at this
     rw [hq0] at this
     simpa using this
    have hu10:10∉genL++Lib.itoa n:=by
     intro h
     rcases List.mem_append.1 h with h|h
     ·revert h;decide
     ·exact qnt n h
    have hA:=qb1 (c:=10) [10] hu10
    have hB:=qfe (c:=10) [10] hu10
    rw [e] at hA hB
    by_cases hq10:10∈q0
    ·have e2:=qcf hq10
     have e3:q0++10::(37::q)=upto 10 q0++10::(past 10 q0++10::(37::q)):=by
      conv=>lhs;rw [e2]
      simp
     rw [e3,qfe _ (qn5 10 q0)] at hB
     have:=congrArg List.length hB
     simp at this
     omega
    ·rw [qfe _ hq10] at hB
     simp at hB
theorem q0k {l x y:qc} (h:∀ p∈zj l,p.2=true) (hx:yp (l++x)=(0,l++x)) (hy:y=[]∨y.head? = some 37):yp (l++y)=(0,l++y):=by
 refine qrk fun n r hg e=>?_
 obtain⟨t,ht⟩:=q74 (n:=n) h hy ⟨r,e.symm⟩
 have:yp (l++x)=(n,t++x):=by rw [← ht,List.append_assoc,qig hg]
 rw [hx] at this
 have h0:(0:Int)=n:=(Prod.mk.inj this).1
 have:=hg.1
 omega
theorem qai.gen0 {text:qc} {b:qcg} (h:qai text b):b.gen=0∨qcm b.gen:=by
 have:=(qw9 text).2
 rw [h.gen] at this
 exact this
theorem qai.other {text:qc} {b:qcg} (h:qai text b) {bs:List (List qr)} {t:qc} (hg:∀ x∈bs,qj5 x) (ht:(xl t).1=2) (hlen:(y8 b.gen++(b.base++(x4 bs++t))).length≤120000) :
  qai (y8 b.gen++(b.base++(x4 bs++t))) ⟨b.gen,b.base,bs,qbq ((y8 b.gen).length+b.base.length) bs,t⟩:=by
 refine⟨rfl,?_,h.parse,hg,ht,rfl,hlen⟩
 rcases h.gen0 with h0|h0
 ·have hgen:=h.gen
  have htext:=h.txt
  have e:y8 b.gen=[]:=by unfold y8;rw [if_neg (by rw [h0];decide)]
  rw [e,List.nil_append] at htext ⊢
  rw [h0,htext] at hgen
  simp only
  rw [h0]
  exact q0k (fun p hp=>((quw h.parse).1 p hp).2) hgen (q1e (q1f hg ht))
 ·have e:y8 b.gen=qan b.gen:=by unfold y8;rw [if_pos h0]
  simp only
  rw [e,qig h0]
theorem q5r:xl []=(2,[],0):=by
 unfold xl qc2
 rw [if_neg (by simp),if_pos]
 rw [if_neg (by decide)]
 decide
theorem qai.more {text:qc} {b:qcg} (h:qai text b) {x:List qr} (hx:qj5 x) (hl:(qaz b++recE x).length≤120000):qai (qaz b++recE x) { b with batches:=b.batches++[x],ends:=b.ends++[qj1 b+(recE x).length],tail:=[] }:=by
 have e:y8 b.gen++(b.base++(x4 (b.batches++[x])++[]))=qaz b++recE x:=by simp [qaz,qz8]
 have:=h.other (bs:=b.batches++[x]) (t:=[]) (fun y hy=>by
  rcases List.mem_append.1 hy with hy|hy
  ·exact h.good y hy
  ·obtain rfl:=List.mem_singleton.1 hy
   exact hx) (by rw [q5r]) (by rw [e];exact hl)
 rw [e,qng,← h.ends] at this
 have hw:((y8 b.gen).length+b.base.length+(x4 b.batches).length+(recE x).length:Int)=qj1 b+(recE x).length:=by
  rw [h.whole]
  simp [qaz]
  omega
 rw [hw] at this
 exact this
end Go.Pl
namespace Go.Proofs.YtejoahlpbckbeaaGreatDoor
open Go Go.Av Go.RowKit Go.Proofs Go.Pl
def q6v (L:List LnV) (i:Nat) (x:LnV):List qc:=x.text::j5 ((L.drop (i+1)).map qzz)
theorem quc:∀ (r:List (qc×Bool)),(j5 r).length≤r.length
 | []=>by simp [j5]
 |(t,e)::r=>by
  have:=quc r
  rw [j5]
  split <;> simp <;> omega
theorem qud:∀ {r:List (qc×Bool)} {n:Nat},(∀ p∈r,p.1.length≤n)→∀ s∈j5 r,s.length≤n
 | [],_,_,s,hs=>by simp [j5] at hs
 |(t,e)::r,n,h,s,hs=>by
  rw [j5] at hs
  split at hs
  ·rcases List.mem_cons.1 hs with rfl|hs
   ·exact h (s,e) (by simp)
   ·exact qud (fun p hp=>h p (by simp [hp])) s hs
  ·simp at hs
structure LnsB (L:List LnV):Prop where
 len:L.length<100000
 val:∀ x∈L,x.text.length<100000
theorem LnsB.said {L:List LnV} (h:LnsB L) {i:Nat} {x:LnV} (hx:L[i]? = some x):LsB (q6v L i x):=by
 have h1:=quc ((L.drop (i+1)).map qzz)
 have h2:=h.len
 have h3:=h.val x (List.mem_of_getElem? hx)
 refine⟨?_,fun s hs=>?_⟩
 ·unfold q6v
  simp at h1 ⊢
  omega
 ·rcases List.mem_cons.1 hs with rfl|hs
  ·omega
  ·have:=qud (n:=100000) (fun p hp=>by
    obtain⟨y,hy,rfl⟩:=List.mem_map.1 hp
    have:=h.val y (List.mem_of_mem_drop hy)
    simp only [qzz]
    omega) s hs
   omega
@[reducible] def qdf (es : List Int) : AV := .sl 1 (es.map fun x => Iv x) none
theorem qu3 {a b c:AV} (h1:Pure a) (h2:Pure b) (h3:Pure c):Pure (.tu [a,b,c]):=qes fun z hz=>by
 simp only [List.mem_cons,List.not_mem_nil,or_false] at hz
 rcases hz with rfl|rfl|rfl
 ·exact h1
 ·exact h2
 ·exact h3
theorem qco (es:List Int):Pure (qdf es):=qa7 fun x hx=>by
 obtain⟨b,_,rfl⟩:=List.mem_map.1 hx
 intro y hy
 simp only [AV.cells,List.mem_cons,List.not_mem_nil,or_false] at hy
 subst hy
 exact q8 _
theorem qw5 (text:qc) (st:List AObj) (hl:60000<text.length) (h2:text.length<1000000):qn E 56 [Sv text] st fun r st'=>r = .tu [wp [],errA (.num 1)]∧st'=st:=by
 refine jc [.s text] (w6 (qbg _) (kg _)) Tryz.func56 rfl rfl (fun _=>rfl) rfl fun S0=>?_
 apply qe []
 repeat' (first|apply And.intro|(intro h;try exact cDd)|exact cSd|apply qd []|refine exr ?_|refine qg ?_)
def itsE (text:qc):List qu:=if 60000<text.length then [] else (jw text).2
theorem q3k (text:qc) (st:List AObj) (hl:text.length<1000000):qn E 56 [Sv text] st fun r st'=>r = .tu [wp (itsE text),errA (zx text)]∧st'=st:=by
 unfold zx itsE
 by_cases hb:60000<text.length
 ·rw [if_pos hb,if_pos hb]
  exact qw5 text st hb hl
 ·rw [if_neg hb,if_neg hb]
  have:=q57 text st (by omega)
  unfold qcs at this
  rcases hp:(jw text).1 with _ | ⟨x,y⟩
  ·rw [hp] at this
   exact this
  ·rw [hp] at this
   exact this
theorem qh6:∀ (r:List (qc×Bool)) (i:Nat) (prev:Bool) (now:qu) (rec:Int) (out:List qu) (e:Int×Int),(refL i r prev now rec out).1=some e→e.2≠0
 | [],i,prev,now,rec,out,e,h=>by simp [refL] at h
 |(t,b)::r,i,prev,now,rec,out,e,h=>by
  rw [refL] at h
  split at h
  ·rename_i hw
   simp only [Option.some.injEq] at h
   subst h
   exact hw
  ·split at h
   ·exact qh6 r _ _ _ _ _ e h
   ·split at h
    ·exact qh6 r _ _ _ _ _ e h
    ·exact qh6 r _ _ _ _ _ e h
theorem qz0 {text:qc} {n:Int} (h:zx text = .num n):n=1:=by
 unfold zx at h
 split at h
 ·simpa using h.symm
 ·split at h <;> simp at h
theorem q2y {text:qc} {a n:Int} (h:zx text = .at' a n):n≠0:=by
 unfold zx at h
 split at h
 ·simp at h
 ·split at h
  ·simp at h
  ·rename_i a' n' hp
   simp only [ErrV.at'.injEq] at h
   rw [← h.2]
   have:=qbk text
   exact qh6 _ _ _ _ _ _ (a',n') (by rw [this];exact hp)
end Go.Proofs.YtejoahlpbckbeaaGreatDoor
namespace Go.Pl
open Go Go.Proofs
structure EntV where
 x:qu
 id:Int
structure qp where
 ents:List EntV
 next:Int
 many:Int
def ve (l:qp) (x:qu):qp:=if x.kind=3 then⟨l.ents++[⟨x,l.next⟩],l.next+1,l.many+1⟩ else⟨l.ents++[⟨x,0⟩],l.next,l.many⟩
def ofF (its:List qu):qp:=its.foldl ve ⟨[],1,0⟩
end Go.Pl
namespace Go.Proofs.YtejoahlpbckbeaaGreatDoor
open Go Go.Av Go.RowKit Go.Proofs Go.Pl
@[reducible] def entA (e : EntV) : AV := .ag [Iv e.x.kind, Sv e.x.raw, zr e.x.fields, Iv e.id]
@[reducible] def ki (l : qp) : AV := .pp [.sl 4 (l.ents.map entA) none, Iv l.next, Iv l.many]
def qbh (e:ErrV) (l:qp):AV:=match e with
 | .no=>.tu [ki l,errA .no]
 |e=>.tu [.v (.pointer none),errA e]
theorem qze (e:EntV):qj6 (entA e):=fun y hy=>by
 simp only [AV.cells,List.mem_cons,List.not_mem_nil,or_false] at hy
 rcases hy with rfl|rfl|rfl|rfl
 ·exact q8 _
 ·exact q8 _
 ·exact qa4 _
 ·exact q8 _
theorem qnx (l:qp):Pure (ki l):=qpm fun x hx=>by
 simp only [List.mem_cons,List.not_mem_nil,or_false] at hx
 rcases hx with rfl|rfl|rfl
 ·exact qa7 fun x hx=>by
   obtain⟨f,_,rfl⟩:=List.mem_map.1 hx
   exact qze f
 ·exact q8 _
 ·exact q8 _
theorem qla (e:ErrV) (l:qp):Pure (qbh e l):=by
 cases e with
 |no=>exact w6 (qnx l) (kg _)
 |num n=>exact w6 (q8 _) (kg _)
 |at' a n=>exact w6 (q8 _) (kg _)
theorem qia:∀ (n:Nat) (rest:qc) (k:Nat) (p:PSt),rest.length≤n→PB (4 * k) p→k+rest.length≤60000→(runL k (zj rest) p).2.items.length≤300000:=by
 have nil:∀ (k:Nat) (p:PSt),PB (4 * k) p→k≤60000→(runL k (zj []) p).2.items.length≤300000:=fun k p hB hk=>by
  have e:zt p 0 [] true 1=endP p:=rfl
  have h:=qfl (no:=0) (text:=[]) (ended:=true) (kind:=1) hB (by omega) (by simp)
  rw [e] at h
  have e2:runL k (zj []) p=endP p:=by rw [vg];rfl
  rw [e2]
  have:=h.items
  omega
 intro n
 induction n with
 |zero=>
  intro rest k p hr hB hk
  obtain rfl:rest=[]:=List.eq_nil_of_length_eq_zero (by omega)
  exact nil k p hB (by simpa using hk)
 |succ n ih=>
  intro rest k p hr hB hk
  by_cases hne:rest=[]
  ·subst hne
   exact nil k p hB (by simpa using hk)
  ·have hu:=yw 10 rest
   have hpl:=xn 10 rest
   have hr0:0<rest.length:=List.length_pos_iff.2 hne
   rw [wq hne]
   simp only [runL]
   have hB2:=qmc (no:=k) (text:=upto 10 rest) (ended:=decide (10∈rest)) hB (by omega) (by omega)
   split
   ·have:=hB.items
    simp only
    omega
   ·exact ih (past 10 rest) (k+1) _ (by omega) hB2 (by omega)
theorem qt8 (text:qc):(itsE text).length≤300000:=by
 unfold itsE
 split
 ·simp
 ·have h:=qia text.length text 0 p0 (Nat.le_refl _) qsi (by omega)
  unfold jw
  split
  ·simp
  ·exact h
theorem qbw (text:qc) (st:List AObj) (hl:text.length<1000000):qn E 22 [Sv text] st fun r st'=>r=qbh (zx text) (ofF (itsE text))∧st'=st:=by
 refine qh3 [.s text] (qla _ _) Tryz.func22 rfl rfl (fun _=>rfl) rfl fun S0=>?_
 have hp:=fun st=>q3k text st hl
 have hil:=qt8 text
 generalize itsE text=its at hp hil
 cases he:zx text with
 |num n=>
  rw [he] at hp
  apply qe [19]
  repeat' (first|apply And.intro|(intro h;try exact cDd)|exact⟨Tryz.call56⟩|refine cpe hp ?_|exact cSd|apply qd [19]|refine exr ?_|refine qg ?_)
 |at' a n=>
  rw [he] at hp
  apply qe [19]
  repeat' (first|apply And.intro|(intro h;try exact cDd)|exact⟨Tryz.call56⟩|refine cpe hp ?_|exact cSd|apply qd [19]|refine exr ?_|refine qg ?_)
 |no=>
  rw [he] at hp
  apply qe [19]
  repeat' (first|apply And.intro|(intro h;try exact cDd)|exact⟨Tryz.call56⟩|refine cpe hp ?_|exact cSd|apply qd [19]|refine exr ?_|refine qg ?_)
  refine vv (X:=Nat×qp) (fun (k,l)=>⟨[(6,.bx 0 0),(20,.a (wp its)),(21,.i its.length),(22,.i k)],[(0,some (.cells 110 [.tp 1,.i l.next,.i l.many])),(1,some (.tip 4 114 (l.ents.map entA)))],2⟩)
   (fun (k,l)=>k≤its.length∧l.ents.length=k∧(1≤l.next∧l.next≤k+1∧0≤l.many∧l.many≤k)∧(its.drop k).foldl ve l=ofF its) (fun (k,l)=>its.length - k) (0,⟨[],1,0⟩) ⟨by omega,rfl,⟨by decide,by decide,by decide,by decide⟩,rfl⟩ ?_ ?_
  ·skip
   repeat' (first|apply And.intro|(intro h;try exact cDd)|exact cSd|apply qd []|refine exr ?_|refine qg ?_)
   all_goals (simp;done)
  ·rintro⟨k,l⟩ ⟨hk,hlk,hnx,hrun⟩
   by_cases hkn:k<its.length
   ·have hx:its[k]? = some its[k]:=List.getElem?_eq_getElem hkn
    have hxm:(its.map wn)[k]? = some (wn its[k]):=by rw [List.getElem?_map,hx];rfl
    rw [List.drop_eq_getElem_cons hkn,List.foldl_cons] at hrun
    have hml:(l.ents.map entA).length=l.ents.length:=by simp
    generalize its[k]=x at hx hxm hrun
    by_cases hk3:x.kind=3
    ·have e:ve l x=⟨l.ents++[⟨x,l.next⟩],l.next+1,l.many+1⟩:=if_pos hk3
     rw [e] at hrun
     apply qe []
     repeat' (first|apply And.intro|(intro h;try exact cDd)|(refine Exists.intro (k) ⟨by omega,_,hxm,?_⟩)|(refine Exists.intro (k+1,⟨l.ents++[⟨x,l.next⟩],l.next+1,l.many+1⟩) ⟨⟨by omega,by simp [hlk],by simp only;omega,hrun⟩,by simp only;omega,?_⟩)|exact cSd|apply qd []|refine exr ?_|refine qg ?_)
     all_goals (simp;done)
    ·have e:ve l x=⟨l.ents++[⟨x,0⟩],l.next,l.many⟩:=if_neg hk3
     rw [e] at hrun
     apply qe []
     repeat' (first|apply And.intro|(intro h;try exact cDd)|(refine Exists.intro (k) ⟨by omega,_,hxm,?_⟩)|(refine Exists.intro (k+1,⟨l.ents++[⟨x,0⟩],l.next,l.many⟩) ⟨⟨by omega,by simp [hlk],by simp only;omega,hrun⟩,by simp only;omega,?_⟩)|exact cSd|apply qd []|refine exr ?_|refine qg ?_)
     all_goals (simp;done)
   ·have hkn:k=its.length:=by omega
    subst hkn
    rw [List.drop_length] at hrun
    have e:ofF its=l:=hrun.symm
    rw [e]
    apply qe []
    repeat' (first|apply And.intro|(intro h;try exact cDd)|exact cSd|apply qd []|refine exr ?_|refine qg ?_)
end Go.Proofs.YtejoahlpbckbeaaGreatDoor
namespace Go.Av
open Go Go.RowKit
theorem qge {E:Env} {rd:Option Nat} {N:Nat} {ops:Array Oper} {K:AS→Prop} {s:AS} {rest:List Oper} {d:Option Tmp} {T:TypeId} {p:String} {af:Array Edge} {x:Operand} {t t' te:TypeId} {sz:Nat} {xs:List AV} {tip:Option Nat} (hx:qf N s x = .sl sz xs tip) (hu:E.P.underlying t=some (.slice te))
  (h1:xs=[]→AOps E rd N ops rest K (s.put d (Bv true))) (h2:AOps E rd N ops rest K (s.put d (Bv false))):AOps E rd N ops (⟨d,.binOp .eql t x (.const (.slice none 0 0)) t',T,p,af,none⟩::rest) K s:=by
 refine qs rfl (qq nofun fun B0 w0 G a w _ hI=>?_)
 have he:=hI.eval_of hx
 have key:∃ q n c,a.eval x = .slice q n c∧(q.isNone=true→xs=[]):=by
  generalize a.eval x=u at he
  cases he with
  |sl0=>exact⟨_,_,_,rfl,fun _=>rfl⟩
  |sl=>exact⟨_,_,_,rfl,fun h=>by simp at h⟩
 obtain⟨q,n,c,hv,hq0⟩:=key
 have hc:a.eval (.const (.slice none 0 0)) = .slice none 0 0:=rfl
 have hq:=Lib.run_eql_slice_nil (P:=E.P) w t te q n c 0 0 hu
 refine⟨_,w,G,.v (.bool q.isNone),s.st,?_,.refl G,hI.agree,.v _,?_⟩
 ·generalize a.eval = ρ at hv hc
  simp [execOp,hv,hc,eqGuard_at_slice,hq]
 ·cases hb:q.isNone with
  |true=>exact h1 (hq0 hb)
  |false=>exact h2
theorem qaa.len0 {c:AV} (h:qaa c):∀ (G:Gh) (v:Value),Rel G c v→∃ b n cp,v = .slice b n cp∧n≤cp:=fun G v hv=>by
 obtain⟨base,rfl⟩:=h.val G v hv
 exact⟨_,_,_,rfl,Nat.le_refl _⟩
end Go.Av
namespace Go.Proofs.YtejoahlpbckbeaaGreatDoor
open Go Go.Av Go.RowKit Go.Proofs Go.Pl
theorem y5 (fs:List Fld) (st:List AObj) (hl:fs.length<1000000):qn E 109 [zr fs] st fun r st'=>r=zr fs∧st'=st:=by
 refine zz (qa4 _) (qx Tryz.func109 rfl (Nat.le_of_ble_eq_true rfl) ?_)
 have hml:(fs.map fldA).length=fs.length:=by simp
 rw [List.append_nil]
 repeat' (first|(apply qbs (st:=st);(iterate 6 exact rfl))|(apply qge;exact rfl;exact rfl;intro h0)|apply qt|apply qj|apply qi|apply ql|apply qk|(apply qh;exact rfl;apply cd_t;exact cRa)|(apply qh;exact rfl;apply cd_f;exact cRa)|apply q9|apply zi|(apply qst (b:=st.length) (xs:=[]) (ys:=fs.map fldA) (bytes:=32);(iterate 5 exact rfl);exact⟨⟨_,_,rfl,rfl,rfl,rfl,rfl⟩⟩;(focus (repeat' (first|assumption|exact q6h _ _ _ _|exact q9p _ _ _ _ _ _ _|apply q6i|apply q3v|(refine xw (T:=_) (ver:=_) (cs:=_) ?_)|exact wl|exact xg rfl|apply jy|apply vb|omega|apply qbv)));(exact qep);(first|exact rfl|exact qch fun _=>rfl);((simp [maxLen];omega));((simp;omega));intro c' S' t1 g1 g2 g3 g4))
 ·exact qv rfl (yy (zw rfl) (fun G v h=>by
   rw [zr,h0]
   exact y0 h)) ⟨rfl,_,(List.append_nil st).symm⟩
 ·exact qv rfl (yy (zw rfl) (qu4 g1)) ⟨rfl,qpc fun j hj=>(g2.same j (by omega) (Nat.lt_of_lt_of_le hj qep)).trans (List.getElem?_append_left hj)⟩
theorem qyz (es:List EntV) (st:List AObj) (hl:es.length<1000000):qn E 199 [.sl 4 (es.map entA) none] st fun r st'=>OwnR 4 114 (es.map entA) st (.v undef) r st':=by
 refine qx Tryz.func199 rfl (Nat.le_of_ble_eq_true rfl) ?_
 have hml:(es.map entA).length=es.length:=by simp
 rw [List.append_nil]
 by_cases he:es=[]
 ·subst he
  repeat' (first|(apply qbs (st:=st);(iterate 6 exact rfl))|(apply qge;exact rfl;exact rfl;intro h0)|(apply qix (c:=.os st.length 0 0 0 0);exact rfl;exact (qjo _ _ _).len0;exact fun _ _ h=>h;exact rfl;exact rfl;exact⟨⟨_,_,rfl,rfl,rfl,rfl,rfl⟩⟩)|apply qt|apply qj|apply qi|apply ql|apply qk|(apply qh;exact rfl;apply cd_t;exact cRa)|(apply qh;exact rfl;apply cd_f;exact cRa)|apply q9|apply zi)
  ·exact qv rfl (zw rfl) ⟨.inl ⟨rfl,ql5 none⟩,Nat.le_refl _,fun _ _ _=>rfl,fun o ho=>by
   have ho:(none:Option Nat)=some o:=ho
   simp at ho⟩
  ·exact qv rfl (zw rfl) ⟨.inl ⟨rfl,qjo _ _ _⟩,qep,fun j hj _=>List.getElem?_append_left hj,fun o ho=>by
   have ho:(none:Option Nat)=some o:=ho
   simp at ho⟩
 ·have hne:es.map entA≠[]:=by simpa using he
  repeat' (first|(apply qbs (st:=st);(iterate 6 exact rfl))|(apply qge;exact rfl;exact rfl;intro h0)|(refine qbr (ys:=es.map entA) (bytes:=56) (qjo _ _ _).val (fun _ _ h=>h) rfl rfl ⟨⟨_,_,rfl,rfl,rfl,rfl,rfl⟩⟩ (qch fun _=>rfl) hne (by simp [maxLen];omega) (by simp;omega) fun cap pad q1 q2 q3 q4=>?_)|apply qt|apply qj|apply qi|apply ql|apply qk|(apply qh;exact rfl;apply cd_t;exact cRa)|(apply qh;exact rfl;apply cd_f;exact cRa)|apply q9|apply zi)
  ·exact absurd h0 hne
  ·refine qv rfl (zw rfl) ⟨.inr ⟨_,0,cap,pad,rfl,wl,q1,q2,q3,q4⟩,Nat.le_trans qep qep,fun j hj _=>?_,fun o ho=>?_⟩
   ·show ((st++[_])++[_])[j]? = _
    rw [List.getElem?_append_left (by simp;omega),List.getElem?_append_left hj]
   ·have ho':some (st++[AObj.cells 0 114 []]).length=some o:=ho
    simp only [Option.some.injEq] at ho'
    left
    rw [← ho']
    simp
end Go.Proofs.YtejoahlpbckbeaaGreatDoor
namespace Go.Pl
open Go Go.Proofs
def xi (id:Int):Nat→List EntV→Int
 | _,[]=> -1
 |k,e::r=>if e.id=id then (k:Int) else xi id (k+1) r
def atF (l:qp) (id:Int):Int:=if id<1 then -1 else xi id 0 l.ents
theorem qno (id:Int):∀ (es:List EntV) (k:Nat),xi id k es = -1∨∃ i e,xi id k es=((k+i:Nat):Int)∧es[i]? = some e∧e.id=id
 | [],k=>.inl rfl
 |e::r,k=>by
  unfold xi
  by_cases h:e.id=id
  ·rw [if_pos h]
   exact .inr ⟨0,e,by simp,rfl,h⟩
  ·rw [if_neg h]
   rcases qno id r (k+1) with g | ⟨i,e',g1,g2,g3⟩
   ·exact .inl g
   ·exact .inr ⟨i+1,e',by rw [g1];congr 1;omega,by simpa using g2,g3⟩
theorem qgv (l:qp) (id:Int):atF l id = -1∨∃ (i:Nat) (e:EntV),atF l id=(i:Int)∧l.ents[i]? = some e∧e.id=id∧1≤id:=by
 unfold atF
 by_cases h:id<1
 ·exact .inl (if_pos h)
 ·rw [if_neg h]
  rcases qno id l.ents 0 with g | ⟨i,e,g1,g2,g3⟩
  ·exact .inl g
  ·exact .inr ⟨i,e,by rw [g1];congr 1;omega,g2,g3,by omega⟩
end Go.Pl
namespace Go.Proofs.YtejoahlpbckbeaaGreatDoor
open Go Go.Av Go.RowKit Go.Proofs Go.Pl
theorem zbj (e:EntV) (id:Int) (st:List AObj):qn E 268 [entA e,.pp [Iv id]] st fun r st'=>r=Bv (decide (e.id=id))∧st'=st:=by
 refine jc [.a (entA e),.a (.pp [Iv id])] (q8 _) Tryz.func268 rfl rfl (fun _=>rfl) rfl fun S0=>?_
 apply qe []
 repeat' (first|apply And.intro|(intro h;try exact cDd)|exact cSd|apply qd []|refine exr ?_|refine qg ?_)
@[reducible] def atFn (id : Int) : SV := .fn (.func 268) [] [.a (.pp [Iv id])]
theorem q8l (l:qp) (st:List AObj):qn E 147 [ki l] st fun r st'=>r=Iv l.next∧st'=st:=by
 refine jc [.a (ki l)] (q8 _) Tryz.func147 rfl rfl (fun _=>rfl) rfl fun S0=>?_
 apply qe []
 repeat' (first|apply And.intro|(intro h;try exact cDd)|exact cSd|apply qd []|refine exr ?_|refine qg ?_)
@[reducible] def lstH (a : Nat) (l : qp) : List (Nat × Option SR) := [(0, some (.cells 110 [.tp a, .i l.next, .i l.many])), (a, some (.own 4 114 (l.ents.map entA)))]
theorem q43 (es:List EntV) (id:Int) (hl:es.length<1000000):jo E 267 [.tp 0,atFn id] 1 (hpF [(0,some (.own 4 114 (es.map entA)))]) ⟨.i (xi id 0 es),je [(0,some (.own 4 114 (es.map entA)))],[(0,some (.own 4 114 (es.map entA)))]++j6 [(0,some (.own 4 114 (es.map entA)))],1⟩:=by
 refine vj [.tp 0,atFn id] [(0,some (.own 4 114 (es.map entA)))] 1 (.i (xi id 0 es)) [(0,some (.own 4 114 (es.map entA)))] 1 Tryz.func267 rfl rfl rfl rfl fun S F ρ=>?_
 have hml:(es.map entA).length=es.length:=by simp
 apply qe []
 repeat' (first|apply And.intro|(intro h;try exact cDd)|exact cSd|apply qd []|refine exr ?_|refine qg ?_)
 refine vv (X:=Nat) (fun k=>⟨[(0,.tp 0),(1,atFn id),(7,.i es.length),(8,.i k)],[(0,some (.own 4 114 (es.map entA)))],1⟩) (fun k=>k≤es.length∧xi id k (es.drop k)=xi id 0 es) (fun k=>es.length - k) 0 ⟨by omega,by simp⟩ ?_ ?_
 ·skip
  repeat' (first|apply And.intro|(intro h;try exact cDd)|exact cSd|apply qd []|refine exr ?_|refine qg ?_)
  all_goals (simp;done)
 ·rintro k ⟨hk,hrun⟩
  by_cases hkn:k<es.length
  ·have hx:es[k]? = some es[k]:=List.getElem?_eq_getElem hkn
   have hxm:(es.map entA)[k]? = some (entA es[k]):=by rw [List.getElem?_map,hx];rfl
   rw [List.drop_eq_getElem_cons hkn,xi] at hrun
   generalize es[k]=e at hx hxm hrun
   have h1:=fun st=>zbj e id st
   by_cases hid:e.id=id
   ·rw [if_pos hid] at hrun
    rw [decide_eq_true hid] at h1
    rw [← hrun]
    apply qe []
    repeat' (first|apply And.intro|(intro h;try exact cDd)|(refine qbx (i:=k) rfl rfl rfl rfl rfl rfl (by omega) ?_)|(refine qfd (i:=k) (j:=0) rfl rfl rfl rfl hxm rfl rfl ?_)|exact⟨Tryz.call268⟩|refine cpe h1 ?_|exact cSd|apply qd []|refine exr ?_|refine qg ?_)
   ·rw [if_neg hid] at hrun
    rw [decide_eq_false hid] at h1
    apply qe []
    repeat' (first|apply And.intro|(intro h;try exact cDd)|(refine qbx (i:=k) rfl rfl rfl rfl rfl rfl (by omega) ?_)|(refine qfd (i:=k) (j:=0) rfl rfl rfl rfl hxm rfl rfl ?_)|exact⟨Tryz.call268⟩|refine cpe h1 ?_|(refine Exists.intro (k+1) ⟨⟨by omega,hrun⟩,by omega,?_⟩)|exact cSd|apply qd []|refine exr ?_|refine qg ?_)
  ·have hkn:k=es.length:=by omega
   subst hkn
   rw [List.drop_length,xi] at hrun
   rw [← hrun]
   apply qe []
   repeat' (first|apply And.intro|(intro h;try exact cDd)|exact cSd|apply qd []|refine exr ?_|refine qg ?_)
theorem qo1 (l:qp) (id:Int) (hl:l.ents.length<1000000):jo E 236 [.bx 0 0,.i id] 2 (hpF (lstH 1 l)) ⟨.i (atF l id),je (lstH 1 l),lstH 1 l++j6 (lstH 1 l),2⟩:=by
 refine vj [.bx 0 0,.i id] (lstH 1 l) 2 (.i (atF l id)) (lstH 1 l) 2 Tryz.func236 rfl rfl rfl rfl fun S F ρ=>?_
 unfold atF
 have h1:=q43 l.ents id hl
 by_cases h:id<1
 ·rw [if_pos h]
  apply qe []
  repeat' (first|apply And.intro|(intro h;try exact cDd)|exact cSd|apply qd []|refine exr ?_|refine qg ?_)
 ·rw [if_neg h]
  apply qe []
  repeat' (first|apply And.intro|(intro h;try exact cDd)|exact⟨Tryz.call267⟩|(refine z0 h1 ?_)|exact cSd|apply qd []|refine exr ?_|refine qg ?_)
end Go.Proofs.YtejoahlpbckbeaaGreatDoor
namespace Go.Pl
open Go Go.Proofs
def qpu (fs:List Fld):qc:=if zl fs = .no then js fs else []
def wb (fs:List Fld):qu:=if zl fs = .no then⟨3,js fs,fs⟩ else⟨0,[],[]⟩
def zu (its:List qu):qc:=its.flatMap fun x=>x.raw
theorem qca (a b:List qu):zu (a++b)=zu a++zu b:=by simp [zu]
theorem qcb (x:qu):zu [x]=x.raw:=by simp [zu]
def z6 (prev:Bool):List qu→List qu
 | []=>[]
 |x::r=>(if prev=true∧x.kind≠1 then [⟨1,[10],[]⟩,x] else [x])++z6 (decide (x.kind≠1)) r
def ww (its:List qu):List qu:=z6 false its
def ze (l:qp):List qu:=l.ents.map fun e=>e.x
def wo (l:qp):qc:=zu (ww (ze l))
end Go.Pl
namespace Go.Proofs.YtejoahlpbckbeaaGreatDoor
open Go Go.Av Go.RowKit Go.Proofs Go.Pl
theorem q26 (fs:List Fld) (st:List AObj) (hK:KeyB fs) (hl:fs.length<9223372036854775808):qn E 269 [zr fs] st fun r st'=>r = .tu [Sv (qpu fs),errA (zl fs)]∧st'=st:=by
 refine jc [.a (zr fs)] (w6 (q8 _) (kg _)) Tryz.func269 rfl rfl (fun _=>rfl) rfl fun S0=>?_
 unfold qpu
 cases he:zl fs with
 |no=>
  rw [if_pos rfl]
  have h1:=fun st=>qh1 fs st _ he hK hl
  obtain⟨_,h3,h4⟩:=qck he
  have h2:=fun st=>qzk fs st h3 h4
  apply qe []
  repeat' (first|apply And.intro|(intro h;try exact cDd)|exact⟨Tryz.call171⟩|refine cpe h1 ?_|exact⟨Tryz.call70⟩|refine cpe h2 ?_|exact cSd|apply qd []|refine exr ?_|refine qg ?_)
 |num n=>
  rw [if_neg (by simp)]
  have h1:=fun st=>qh1 fs st _ he hK hl
  apply qe []
  repeat' (first|apply And.intro|(intro h;try exact cDd)|exact⟨Tryz.call171⟩|refine cpe h1 ?_|exact cSd|apply qd []|refine exr ?_|refine qg ?_)
 |at' a n=>
  rw [if_neg (by simp)]
  have h1:=fun st=>qh1 fs st _ he hK hl
  apply qe []
  repeat' (first|apply And.intro|(intro h;try exact cDd)|exact⟨Tryz.call171⟩|refine cpe h1 ?_|exact cSd|apply qd []|refine exr ?_|refine qg ?_)
theorem qx1 (fs:List Fld) (st:List AObj) (hK:KeyB fs) (hl:fs.length<1000000):qn E 237 [zr fs] st fun r st'=>r = .tu [wn (wb fs),errA (zl fs)]∧st'=st:=by
 refine jc [.a (zr fs)] (w6 (qd4 (qgk _)) (kg _)) Tryz.func237 rfl rfl (fun _=>rfl) rfl fun S0=>?_
 have h1:=fun st=>q26 fs st hK (by omega)
 have h2:=fun st=>y5 fs st hl
 unfold qpu at h1
 unfold wb
 cases he:zl fs with
 |no=>
  rw [he,if_pos rfl] at h1
  rw [if_pos rfl]
  apply qe []
  repeat' (first|apply And.intro|(intro h;try exact cDd)|exact⟨Tryz.call269⟩|refine cpe h1 ?_|exact⟨Tryz.call109⟩|refine cpe h2 ?_|exact cSd|apply qd []|refine exr ?_|refine qg ?_)
 |num n=>
  rw [he,if_neg (by simp)] at h1
  rw [if_neg (by simp)]
  apply qe []
  repeat' (first|apply And.intro|(intro h;try exact cDd)|exact⟨Tryz.call269⟩|refine cpe h1 ?_|exact cSd|apply qd []|refine exr ?_|refine qg ?_)
 |at' a n=>
  rw [he,if_neg (by simp)] at h1
  rw [if_neg (by simp)]
  apply qe []
  repeat' (first|apply And.intro|(intro h;try exact cDd)|exact⟨Tryz.call269⟩|refine cpe h1 ?_|exact cSd|apply qd []|refine exr ?_|refine qg ?_)
theorem q4k (x:qu) (st:List AObj) (hl:x.fields.length<1000000):qn E 203 [wn x] st fun r st'=>r=wn x∧st'=st:=by
 refine jc [.a (wn x)] (qd4 (qgk _)) Tryz.func203 rfl rfl (fun _=>rfl) rfl fun S0=>?_
 have h2:=fun st=>y5 x.fields st hl
 apply qe [1]
 repeat' (first|apply And.intro|(intro h;try exact cDd)|exact⟨Tryz.call109⟩|refine cpe h2 ?_|exact cSd|apply qd [1]|refine exr ?_|refine qg ?_)
structure ItsB (its:List qu):Prop where
 len:its.length≤1000000
 fld:∀ x∈its,x.fields.length<1000000
theorem qp5 (prev:Bool):∀ its:List qu,(z6 prev its).length≤2 * its.length
 | []=>by simp [z6]
 |x::r=>by
  have ih:=qp5 (decide (x.kind≠1)) r
  unfold z6
  split <;> simp only [List.length_append,List.length_cons,List.length_nil] <;> omega
theorem q5k (its:List qu) (st:List AObj) (hB:ItsB its):qn E 159 [wp its] st fun r st'=>r=wp (ww its)∧st'=st:=by
 refine jc [.a (wp its)] (qbg _) Tryz.func159 rfl rfl (fun _=>rfl) rfl fun S0=>?_
 have hln:=hB.len
 apply qe []
 repeat' (first|apply And.intro|(intro h;try exact cDd)|exact cSd|apply qd []|refine exr ?_|refine qg ?_)
 refine vv (X:=Nat×List qu) (fun (k,out)=>⟨[(0,.a (wp its)),(3,.tp 0),(6,.a (wp its)),(7,.i its.length),(8,.i k)],[(0,some (.tip 3 112 (out.map wn)))],1⟩)
  (fun (k,out)=>k≤its.length∧out.length≤2 * k∧∃ prev,(prev=true↔∃ y,0<k∧its[k - 1]? = some y∧y.kind≠1)∧out++z6 prev (its.drop k)=ww its) (fun (k,out)=>its.length - k) (0,[]) ⟨by omega,by simp,false,by simp,rfl⟩ ?_ ?_
 ·skip
  repeat' (first|apply And.intro|(intro h;try exact cDd)|exact cSd|apply qd []|refine exr ?_|refine qg ?_)
  all_goals (simp;done)
 ·rintro⟨k,out⟩ ⟨hk,hol,prev,hpv,hrun⟩
  by_cases hkn:k<its.length
  ·have hx:its[k]? = some its[k]:=List.getElem?_eq_getElem hkn
   have hxm:(its.map wn)[k]? = some (wn its[k]):=by rw [List.getElem?_map,hx];rfl
   have hxf:=hB.fld its[k] (List.getElem_mem hkn)
   rw [List.drop_eq_getElem_cons hkn,z6] at hrun
   generalize its[k]=x at hx hxm hrun hxf
   have hcp:=fun st=>q4k x st hxf
   have hml:(out.map wn).length=out.length:=by simp
   have hnext:(decide (x.kind≠1)=true↔∃ y,0<k+1∧its[k+1 - 1]? = some y∧y.kind≠1):=by
    rw [decide_eq_true_iff,Nat.add_sub_cancel,hx]
    constructor
    ·intro h
     exact⟨x,by omega,rfl,h⟩
    ·rintro⟨y,_,h1,h2⟩
     simp only [Option.some.injEq] at h1
     rw [h1]
     exact h2
   by_cases hk0:k=0
   ·have hp:¬ (prev=true):=fun h=>by
     obtain⟨_,h,_⟩:=hpv.1 h
     omega
    rw [if_neg (fun h=>hp h.1)] at hrun
    apply qe []
    repeat' (first|apply And.intro|(intro h;try exact cDd)|(refine Exists.intro (k) ⟨by omega,_,hxm,?_⟩)|exact⟨Tryz.call203⟩|refine cpe hcp ?_|(refine Exists.intro (k+1,out++[x]) ⟨⟨by omega,by simp;omega,_,hnext,by rw [← hrun];simp⟩,by simp only;omega,?_⟩)|exact cSd|apply qd []|refine exr ?_|refine qg ?_)
    all_goals first|(simp [SV.evs,SV.ev];done)|(simp [SV.evs];omega)
   ·obtain⟨y,hy⟩:∃ y,its[k - 1]? = some y:=⟨_,List.getElem?_eq_getElem (by omega:k - 1<its.length)⟩
    have hym:(its.map wn)[k - 1]? = some (wn y):=by rw [List.getElem?_map,hy];rfl
    have hpy:(prev=true↔y.kind≠1):=by
     rw [hpv]
     constructor
     ·rintro⟨z,_,h1,h2⟩
      rw [hy] at h1
      simp only [Option.some.injEq] at h1
      rw [h1]
      exact h2
     ·exact fun h=>⟨y,by omega,hy,h⟩
    by_cases hb:x.kind≠1∧y.kind≠1
    ·rw [if_pos ⟨hpy.2 hb.2,hb.1⟩] at hrun
     obtain⟨hb1,hb2⟩:=hb
     apply qe []
     repeat' (first|apply And.intro|(intro h;try exact cDd)|(refine Exists.intro (k) ⟨by omega,_,hxm,?_⟩)|(refine Exists.intro (k - 1) ⟨by omega,_,hym,?_⟩)|exact⟨Tryz.call203⟩|refine cpe hcp ?_|(refine Exists.intro (k+1,out++[⟨1,[10],[]⟩,x]) ⟨⟨by omega,by simp;omega,_,hnext,by rw [← hrun];simp⟩,by simp only;omega,?_⟩)|exact cSd|apply qd []|refine exr ?_|refine qg ?_)
     all_goals first|(simp [SV.evs,SV.ev];done)|(simp [SV.evs];omega)
    ·rw [if_neg (fun h=>hb ⟨h.2,hpy.1 h.1⟩)] at hrun
     apply qe []
     repeat' (first|apply And.intro|(intro h;try exact cDd)|(refine Exists.intro (k) ⟨by omega,_,hxm,?_⟩)|(refine Exists.intro (k - 1) ⟨by omega,_,hym,?_⟩)|exact⟨Tryz.call203⟩|refine cpe hcp ?_|(refine Exists.intro (k+1,out++[x]) ⟨⟨by omega,by simp;omega,_,hnext,by rw [← hrun];simp⟩,by simp only;omega,?_⟩)|exact absurd ⟨by assumption,by assumption⟩ hb|exact cSd|apply qd []|refine exr ?_|refine qg ?_)
     all_goals first|(simp [SV.evs,SV.ev];done)|(simp [SV.evs];omega)
  ·have hkn:k=its.length:=by omega
   subst hkn
   rw [List.drop_length,z6,List.append_nil] at hrun
   rw [← hrun]
   apply qe []
   repeat' (first|apply And.intro|(intro h;try exact cDd)|exact cSd|apply qd []|refine exr ?_|refine qg ?_)
theorem q9c (its:List qu) (st:List AObj) (hl:its.length≤4000000) (hr:(zu its).length≤1000000000000):qn E 158 [wp its] st fun r st'=>r=Sv (zu its)∧st'=st:=by
 refine zz (q8 _) (qx Tryz.func158 rfl (Nat.le_of_ble_eq_true rfl) ?_)
 have hml:(its.map wn).length=its.length:=by simp
 repeat' (first|(apply qks;exact rfl)|apply qt|apply za|apply qj|apply qi|apply ql|apply qk|(apply jx;(iterate 4 exact rfl)))
 refine qfp its (fun pre s=>∃ q,(q = .v (.pointer none)∨q = .bx (st.length+0) 0 0)∧StE [(3,.bx (st.length+0) 0 0),(6,wp its),(7,Iv its.length),(8,Iv pre.length)] st [bldO 0 q (zu pre) (st.length+1),.tip (zu pre).length 1 5] s) ⟨_,.inl rfl,qpt ⟨rfl,rfl,congrArg (fun n:Nat=>Iv (n:Int)) hml,rfl,trivial⟩ rfl⟩ ?_ ?_
 ·rintro _ ⟨q,hq,t,ext,rfl⟩
  repeat' (first|apply qt|apply qj|apply qi|apply qk|(apply q7;(iterate 3 exact rfl))|(apply qh;exact rfl;apply y4;exact cAo)|apply vt|apply zi|(refine q5 Tryz.call74 (qkw st _ _ _ _ 0 1 0 _ _ rfl rfl rfl) ?_))
  exact qv rfl (zw rfl) ⟨rfl,qka _ _ _ _⟩
 ·rintro pre x rest _ hre ⟨q,hq,t,ext,rfl⟩
  have hlen:its.length=pre.length+(rest.length+1):=by rw [hre];simp
  have hget:(its.map wn)[pre.length]? = some (wn x):=by rw [hre];simp
  have hrl:(zu pre).length+x.raw.length≤1000000000000:=by
   have e:x::rest=[x]++rest:=rfl
   rw [hre,qca,e,qca,qcb] at hr
   simp only [List.length_append] at hr
   omega
  repeat' (first|apply qt|apply za|apply qj|apply qi|(apply q7;(iterate 3 exact rfl))|(apply qh;exact rfl;apply xk;exact cAo)|(apply vo;exact rfl;exact rfl)|(apply jg;(iterate 3 exact rfl))|(apply j9;(iterate 3 exact rfl))|(apply km;(iterate 5 exact rfl))|(apply kp;(iterate 11 exact rfl))|apply q9|(apply vp (n:=pre.length);(iterate 5 exact rfl);exact hget))
  refine q5 Tryz.call71 (qm5 st _ _ _ _ 0 1 0 _ _ _ rfl rfl ?_ ?_ rfl) ?_;(exact hq);(omega)
  repeat' (first|apply qj|apply qi|apply ql|(apply jj;exact rfl;exact rfl;exact zy (by omega) (by omega)))
  refine⟨_,.inr rfl,qjx ⟨rfl,rfl,rfl,?_,trivial⟩ ?_⟩
  ·rw [qfh pre x];rfl
  ·rw [qca,qcb];rfl
theorem q5u (its:List qu) (st:List AObj) (hB:ItsB its) (hr:(zu (ww its)).length≤1000000000000):qn E 102 [wp its] st fun r st'=>r=Sv (zu (ww its))∧st'=st:=by
 refine jc [.a (wp its)] (q8 _) Tryz.func102 rfl rfl (fun _=>rfl) rfl fun S0=>?_
 have h1:=fun st=>q5k its st hB
 have hal:=qp5 false its
 have hln:=hB.len
 have h2:=fun st=>q9c (ww its) st (by unfold ww;omega) hr
 apply qe []
 repeat' (first|apply And.intro|(intro h;try exact cDd)|exact⟨Tryz.call159⟩|refine cpe h1 ?_|exact⟨Tryz.call158⟩|refine cpe h2 ?_|exact cSd|apply qd []|refine exr ?_|refine qg ?_)
theorem q49 (l:qp) (st:List AObj) (hB:ItsB (ze l)):qn E 103 [ki l] st fun r st'=>r=wp (ze l)∧st'=st:=by
 refine jc [.a (ki l)] (qbg _) Tryz.func103 rfl rfl (fun _=>rfl) rfl fun S0=>?_
 have hln:=hB.len
 have hil:(ze l).length=l.ents.length:=by simp [ze]
 apply qe []
 repeat' (first|apply And.intro|(intro h;try exact cDd)|exact cSd|apply qd []|refine exr ?_|refine qg ?_)
 refine vv (X:=Nat) (fun k=>⟨[(3,.tp 0),(12,.a (.sl 4 (l.ents.map entA) none)),(13,.i l.ents.length),(14,.i k)],[(0,some (.tip 3 112 (((ze l).take k).map wn)))],1⟩)
  (fun k=>k≤l.ents.length) (fun k=>l.ents.length - k) 0 (by omega) ?_ ?_
 ·skip
  repeat' (first|apply And.intro|(intro h;try exact cDd)|exact cSd|apply qd []|refine exr ?_|refine qg ?_)
  all_goals (simp;done)
 ·rintro k hk
  by_cases hkn:k<l.ents.length
  ·have hx:l.ents[k]? = some l.ents[k]:=List.getElem?_eq_getElem hkn
   have hxm:(l.ents.map entA)[k]? = some (entA l.ents[k]):=by rw [List.getElem?_map,hx];rfl
   have hxi:(ze l)[k]? = some l.ents[k].x:=by unfold ze;rw [List.getElem?_map,hx];rfl
   have hxf:=hB.fld l.ents[k].x (List.mem_of_getElem? hxi)
   have htk:(ze l).take (k+1)=(ze l).take k++[l.ents[k].x]:=by rw [List.take_add_one,hxi];rfl
   have htl:(((ze l).take k).map wn).length≤k:=by simp;omega
   generalize l.ents[k]=e at hx hxm hxi hxf htk
   have hcp:=fun st=>y5 e.x.fields st hxf
   apply qe []
   repeat' (first|apply And.intro|(intro h;try exact cDd)|(refine Exists.intro (k) ⟨by omega,_,hxm,?_⟩)|exact⟨Tryz.call109⟩|refine cpe hcp ?_|(refine Exists.intro (k+1) ⟨by omega,by omega,?_⟩)|exact cSd|apply qd []|refine exr ?_|refine qg ?_)
   all_goals first|(rw [htk];simp;done)|(simp [SV.evs];omega)
  ·have hkn:k=l.ents.length:=by omega
   subst hkn
   have e:(ze l).take l.ents.length=ze l:=List.take_of_length_le (by omega)
   rw [e]
   apply qe []
   repeat' (first|apply And.intro|(intro h;try exact cDd)|exact cSd|apply qd []|refine exr ?_|refine qg ?_)
theorem qxv (l:qp) (st:List AObj) (hB:ItsB (ze l)) (hr:(wo l).length≤1000000000000):qn E 55 [ki l] st fun r st'=>r=Sv (wo l)∧st'=st:=by
 refine jc [.a (ki l)] (q8 _) Tryz.func55 rfl rfl (fun _=>rfl) rfl fun S0=>?_
 have h1:=fun st=>q49 l st hB
 have h2:=fun st=>q5u (ze l) st hB hr
 apply qe []
 repeat' (first|apply And.intro|(intro h;try exact cDd)|exact⟨Tryz.call103⟩|refine cpe h1 ?_|exact⟨Tryz.call102⟩|refine cpe h2 ?_|exact cSd|apply qd []|refine exr ?_|refine qg ?_)
theorem qez (es:List EntV):∀ x∈es.map entA,x.cells.length=4:=fun x hx=>by
 obtain⟨e,_,rfl⟩:=List.mem_map.1 hx
 rfl
theorem qat (es:List EntV):(flat (es.map entA)).length=es.length * 4:=by
 rw [zo (qez es),List.length_map]
theorem qdq (a b:List EntV):flat ((a++b).map entA)=flat (a.map entA)++flat (b.map entA):=by rw [List.map_append,vf]
theorem qbb (A B xs:List AV) {off:Nat} (h:A.length=off):zh (A++B) off xs=A++xs++B.drop xs.length:=by
 unfold zh
 rw [← h,List.take_left,List.drop_append,List.drop_eq_nil_of_le (by omega)]
 simp
theorem qej {cs xs:List AV} {off:Nat} (h:off+xs.length≤cs.length):(zh cs off xs).length=cs.length:=by
 unfold zh
 simp
 omega
theorem za8 (es:List EntV) (i:Nat) (hi:i<es.length) (hl:es.length<1000000) (st:List AObj) (c:AV) (hc:OwnS st 4 114 (es.map entA) c):qn E 238 [c,Iv i,Iv ((i:Int)+1)] st fun r st'=>OwnR 4 114 ((es.take i++es.drop (i+1)).map entA) st c r st':=by
 have hml:(es.map entA).length=es.length:=by simp
 rcases hc with⟨h0,_⟩ | ⟨o,ver,cap,pad,rfl,e2,e3,e4,e5,e6⟩
 ·rw [h0] at hml
  simp at hml
  omega
 rw [hml] at e5 ⊢
 have hlt:=lt_of_getElem? e2
 have hfl:=qat es
 have hsplit:flat (es.map entA)++pad=flat ((es.take i).map entA)++(flat ((es.drop i).map entA)++pad):=by
  rw [← List.append_assoc,← qdq,List.take_append_drop]
 have ht4:(flat ((es.take i).map entA)).length=i * 4:=by rw [qat,List.length_take,Nat.min_eq_left (by omega)]
 have hd4:(flat ((es.drop (i+1)).map entA)).length=(es.length - (i+1)) * 4:=by rw [qat,List.length_drop]
 obtain⟨B1,hB1⟩:∃ B1,(flat ((es.drop i).map entA)++pad).drop (flat ((es.drop (i+1)).map entA)).length=B1:=⟨_,rfl⟩
 have hsp:zh (flat (es.map entA)++pad) (i * 4) (flat ((es.drop (i+1)).map entA))=flat ((es.take i++es.drop (i+1)).map entA)++B1:=by
  rw [hsplit,qbb _ _ _ ht4,qdq,hB1]
 have hsl:(flat ((es.take i++es.drop (i+1)).map entA)++B1).length=(cap+1) * 4:=by
  rw [← hsp,qej (by rw [e3,hd4];omega),e3]
 have hel:(es.take i++es.drop (i+1)).length=es.length - 1:=by simp;omega
 -- what is appended
 obtain⟨q,hq⟩:∃ q,(if cap+1=i+1 then 0 else 0+(i+1) * 4)=q:=⟨_,rfl⟩
 have hqz:((flat (es.map entA)++pad).drop q).take ((es.length - (i+1)) * 4)=flat ((es.drop (i+1)).map entA)∧q+(es.length - (i+1)) * 4≤(flat (es.map entA)++pad).length:=by
  rw [e3]
  by_cases hci:cap+1=i+1
  ·have:es.length - (i+1)=0:=by omega
   rw [if_pos hci] at hq
   rw [this,← hq,List.drop_eq_nil_of_le (by omega:es.length≤i+1)]
   exact⟨by simp [flat],by omega⟩
  ·rw [if_neg hci] at hq
   rw [← hq]
   refine⟨?_,by omega⟩
   have e:flat (es.map entA)++pad=flat ((es.take (i+1)).map entA)++(flat ((es.drop (i+1)).map entA)++pad):=by
    rw [← List.append_assoc,← qdq,List.take_append_drop]
   have e':(flat ((es.take (i+1)).map entA)).length=0+(i+1) * 4:=by rw [qat,List.length_take,Nat.min_eq_left (by omega)];omega
   rw [e,← e',List.drop_left,← hd4,List.take_left]
 have hsrc:SrcA st 4 (.os o ver q (es.length - (i+1)) (cap+1 - (i+1))) (es.length - (i+1)) (es.length - (i+1)) (flat ((es.drop (i+1)).map entA)):=by
  have:=SrcA.os (st:=st) (sz:=4) o ver q (es.length - (i+1)) (cap+1 - (i+1)) (es.length - (i+1)) _ _ e2 hqz.2 (by rw [hqz.1];exact qch fun _=>rfl)
  rw [hqz.1] at this
  exact this
 refine qx Tryz.func238 rfl (Nat.le_of_ble_eq_true rfl) ?_
 rw [List.append_nil]
 repeat' (first|(refine zg (sz:=4) (i:=i) (j:=i+1) (m:=es.length) rfl rfl rfl ?_ ?_ ?_ ?_ ?_ ?_ ?_;exact⟨_,rfl⟩;exact⟨_,rfl⟩;exact⟨_,rfl⟩;omega;omega;omega)|apply qt|apply qj|apply qi|apply ql|apply qk|(apply q7;(iterate 3 exact rfl))|(apply qh;exact rfl;apply y4;exact cAo)|(apply jx;(iterate 4 exact rfl))|apply q9)
 refine qo3 (fun s=>StA [(0,.os o ver 0 (i+(es.length - (i+1))) (cap+1)),(7,Iv es.length)] (st.set o (.cells ver 114 (flat ((es.take i++es.drop (i+1)).map entA)++B1))) [] s) ?_ ?_
 ·refine qfo rfl rfl ?_
  (apply wr 0;exact rfl;kernel_rfl;kernel_rfl;kernel_rfl;exact rfl;exact xf)
  (apply wr 1;exact rfl;kernel_rfl;kernel_rfl;kernel_rfl;exact rfl;exact xf)
  (apply wr 3;exact rfl;kernel_rfl;kernel_rfl;kernel_rfl;exact rfl;exact xf)
  (apply wr 4;exact rfl;kernel_rfl;kernel_rfl;kernel_rfl;exact rfl;exact xf)
  refine vi [2,5] (by kernel_rfl) rfl ⟨⟨_,rfl,?_⟩,⟨_,rfl,?_⟩,trivial⟩
  ·(refine zg (sz:=4) (i:=0) (j:=i) (m:=cap+1) rfl rfl rfl ?_ ?_ ?_ ?_ ?_ ?_ ?_;exact rfl;exact⟨_,rfl⟩;exact rfl;omega;omega;omega)
   apply qi
   refine vi [5] (by kernel_rfl) rfl ⟨⟨_,rfl,?_⟩,trivial⟩
   (refine zg (sz:=4) (i:=i+1) (j:=es.length) (m:=cap+1) rfl rfl rfl ?_ ?_ ?_ ?_ ?_ ?_ ?_;exact⟨_,rfl⟩;exact⟨rfl,rfl⟩;exact rfl;omega;omega;omega;rw [hq])
   apply qi
   refine vi [6] (by kernel_rfl) rfl ⟨⟨_,rfl,?_⟩,trivial⟩
   (refine qim (bytes:=56) (o:=o) (ver:=ver) (n:=i) (cap:=cap+1) (m:=es.length - (i+1)) (cs:=flat (es.map entA)++pad) rfl rfl e2 hsrc rfl rfl ⟨⟨_,_,rfl,rfl,rfl,rfl,rfl⟩⟩ (by omega) e3 ?_;rw [hsp])
   apply qi
   (apply wr 7;exact rfl;kernel_rfl;kernel_rfl;kernel_rfl;exact rfl;exact qqc)
   refine qaf (by kernel_rfl) ?_
   exact kz ⟨rfl,rfl,trivial⟩
  ·(refine zg (sz:=4) (i:=i+1) (j:=es.length) (m:=cap+1) rfl rfl rfl ?_ ?_ ?_ ?_ ?_ ?_ ?_;exact⟨_,rfl⟩;exact⟨rfl,rfl⟩;exact rfl;omega;omega;omega;rw [hq])
   apply qi
   refine vi [2] (by kernel_rfl) rfl ⟨⟨_,rfl,?_⟩,trivial⟩
   (refine zg (sz:=4) (i:=0) (j:=i) (m:=cap+1) rfl rfl rfl ?_ ?_ ?_ ?_ ?_ ?_ ?_;exact rfl;exact⟨_,rfl⟩;exact rfl;omega;omega;omega)
   apply qi
   refine vi [6] (by kernel_rfl) rfl ⟨⟨_,rfl,?_⟩,trivial⟩
   (refine qim (bytes:=56) (o:=o) (ver:=ver) (n:=i) (cap:=cap+1) (m:=es.length - (i+1)) (cs:=flat (es.map entA)++pad) rfl rfl e2 hsrc rfl rfl ⟨⟨_,_,rfl,rfl,rfl,rfl,rfl⟩⟩ (by omega) e3 ?_;rw [hsp])
   apply qi
   (apply wr 7;exact rfl;kernel_rfl;kernel_rfl;kernel_rfl;exact rfl;exact qqc)
   refine qaf (by kernel_rfl) ?_
   exact kz ⟨rfl,rfl,trivial⟩
 ·rintro _ ⟨t,rfl⟩
  have hob:(st.set o (AObj.cells ver 114 (flat ((es.take i++es.drop (i+1)).map entA)++B1)))[o]? = some (.cells ver 114 (flat ((es.take i++es.drop (i+1)).map entA)++B1)):=jy e2
  have hqq:(if cap+1=i+(es.length - (i+1)) then 0 else 0+(i+(es.length - (i+1))) * 4)=(es.length - 1) * 4:=by
   rw [if_neg (by omega)]
   omega
  have hfe:(flat ((es.take i++es.drop (i+1)).map entA)).length=(es.length - 1) * 4:=by rw [qat,hel]
  repeat' (first|(refine zg (sz:=4) (i:=i+(es.length - (i+1))) (j:=es.length) (m:=cap+1) rfl rfl rfl ?_ ?_ ?_ ?_ ?_ ?_ ?_;exact⟨_,rfl⟩;exact⟨_,rfl⟩;exact rfl;omega;omega;omega;rw [hqq])|(refine qsx (sz:=4) (bytes:=56) rfl hob rfl ⟨⟨_,_,rfl,rfl,rfl,rfl,rfl⟩⟩ rfl (by rw [hsl];omega) fun zs hz=>?_)|apply qt|apply qj|apply qi|apply ql|apply qk|(apply jx;(iterate 4 exact rfl))|apply zi)
  refine qv rfl (zw rfl) ?_
  show OwnR 4 114 _ st _ (.os o ver 0 (i+(es.length - (i+1))) (cap+1)) ((st.set o _).set o (.cells ver 114 (zh (flat ((es.take i++es.drop (i+1)).map entA)++B1) ((es.length - 1) * 4) zs)))
  rw [List.set_set,qbb _ _ _ hfe,List.append_assoc]
  have hB1l:(es.length - 1) * 4+B1.length=(cap+1) * 4:=by rw [← hfe,← List.length_append];exact hsl
  have hzl:zs.length=4:=by rw [hz];omega
  refine⟨.inr ⟨o,ver,cap,zs++B1.drop zs.length,?_,jy e2,?_,qez _,?_,e6⟩,by simp,fun j hj hne=>List.getElem?_set_ne fun e=>hne (by rw [e];rfl),fun o' ho'=>.inr ho'⟩
  ·rw [List.length_map,hel]
   congr 1
   omega
  ·rw [List.length_append,List.length_append,List.length_drop,hfe,hzl]
   omega
  ·rw [List.length_map,hel]
   omega
theorem q88 (e:EntV) (st:List AObj) (c:AV) (hnr:qaa c):qn E 239 [c,Iv 0,.sl 4 [entA e] none] st fun r st'=>OwnR 4 114 [entA e] st c r st':=by
 refine qx Tryz.func239 rfl (Nat.le_of_ble_eq_true rfl) ?_
 rw [List.append_nil]
 repeat' (first|(apply jx (n:=1);(iterate 4 exact rfl))|(refine qs0 (sz:=4) rfl hnr.val rfl rfl ?_ ?_;exact⟨_,rfl⟩)|(apply jx;exact rfl;exact hnr.len;exact rfl;exact rfl)|(refine qbr (sz:=4) (ys:=[entA e]) (bytes:=56) hnr.val (fun _ _ h=>h) rfl rfl ⟨⟨_,_,rfl,rfl,rfl,rfl,rfl⟩⟩ rfl (by simp) (by simp [maxLen]) (by simp) fun cap pad q1 q2 q3 q4=>?_)|apply qt|apply qj|apply qi|apply ql|apply qk|(apply q7;(iterate 3 exact rfl))|(apply qh;exact rfl;apply xk;exact cAo)|(apply qh;exact rfl;apply y4;exact cAo)|apply q9|apply zi)
 refine qv rfl (zw rfl) ?_
 show OwnR 4 114 _ st c (.os st.length 0 0 _ (cap+1)) (st++[_])
 refine⟨.inr ⟨_,0,cap,pad,rfl,wl,q1,q2,q3,q4⟩,qep,fun j hj _=>List.getElem?_append_left hj,fun o ho=>?_⟩
 simp only [qy,Option.some.injEq] at ho
 left
 omega
theorem q89 (es:List EntV) (e:EntV) (hl:es.length<1000000) (st:List AObj) (o ver cap:Nat) (pad:List AV) (e2:st[o]? = some (.cells ver 114 (flat (es.map entA)++pad))) (e3:(flat (es.map entA)++pad).length=(cap+1) * 4) (e5:es.length≤cap+1) (e6:cap+1≤maxLen) :
  qn E 239 [.os o ver 0 es.length (cap+1),Iv es.length,.sl 4 [entA e] none] st fun r st'=>OwnR 4 114 (es.map entA++[entA e]) st (.os o ver 0 es.length (cap+1)) r st':=by
 have hml:(es.map entA).length=es.length:=by simp
 have hlt:=lt_of_getElem? e2
 have hV0:Vec 4 114 o (es.map entA) (.os o ver 0 es.length (cap+1)) (.cells ver 114 (flat (es.map entA)++pad)):=by
  have:=Vec.os (o:=o) (T:=114) (xs:=es.map entA) ver (cap+1) pad e3 (qez _) (by omega) e6
  rw [hml] at this
  exact this
 refine qx Tryz.func239 rfl (Nat.le_of_ble_eq_true rfl) ?_
 rw [List.append_nil]
 repeat' (first|(apply jx (n:=1);(iterate 4 exact rfl))|(refine zg (sz:=4) (i:=es.length) (j:=es.length) (m:=cap+1) rfl rfl rfl ?_ ?_ ?_ ?_ ?_ ?_ ?_;exact⟨_,rfl⟩;exact⟨rfl,rfl⟩;exact rfl;omega;omega;omega)|(refine qin (sz:=4) (bytes:=56) (o:=o) (xs:=es.map entA) (ys:=[entA e]) rfl (fun _ _ h=>h) hV0 e2 rfl rfl ⟨⟨_,_,rfl,rfl,rfl,rfl,rfl⟩⟩ rfl (by simp [maxLen];omega) (by simp;omega) fun a' ob' hV=>?_)|apply qt|apply qj|apply qi|apply ql|apply qk|(apply q7;(iterate 3 exact rfl))|(apply qh;exact rfl;apply xk;exact cAo)|(apply qh;exact rfl;apply y4;exact cAo)|(apply jx;(iterate 4 exact rfl))|apply q9|apply zi)
 rcases qvs hV with⟨q,_,_⟩ | ⟨ver',cap',pad',rfl,rfl,q1,q2,q3,q4⟩
 ·simp at q
 ·obtain⟨cap',rfl⟩:∃ c,cap'=c+1:=⟨cap' - 1,by simp at q3;omega⟩
  refine qv rfl (zw rfl) ?_
  show OwnR 4 114 _ st _ (.os o ver' 0 _ (cap'+1)) (st.set o _)
  exact⟨.inr ⟨o,ver',cap',pad',rfl,jy e2,q1,q2,q3,q4⟩,by simp,fun j hj hne=>List.getElem?_set_ne fun e=>hne (by rw [e];rfl),fun o' ho'=>.inr ho'⟩
theorem quu (w:World) (a b:Addr) (la ca lb cb:Nat) (tA tB:TypeId) (kA kB:Nat) (h1:a.block≠b.block) (h2:w.shape? a.block=some (tA,kA)) (h3:w.shape? b.block=some (tB,kB)) (h4:kA≠0) (h5:w.frozen? b=false) (h6:w.frozen? { block:=b.block,off:=kB }=false) :
  (callFunc 270 #[.slice (some a) la ca,.slice (some b) lb cb]).run E.P w = .ok (.value (.bool false)) w:=by
 have hz:∀ w,(Go.sizeOf 114).run E.P w = .ok 4 w:=fun w=>(jz (agg:=true) rfl w).1
 rw [run_callFunc_extern (P:=E.P) Tryz.func270 (by kernel_rfl) (by kernel_rfl) (by kernel_rfl) (e:=Extern.SlicesOverlaps.overlaps #[108,108] #[4]) (by kernel_rfl),
  qmb w 108 4 114 rfl 4 hz a b la ca lb cb h1 tA tB kA kB h2 h3 h4 h5 h6]
 rfl
structure InsB (es:List EntV) (e:EntV) (i cap:Nat) (pad:List AV):Prop where
 t4:(flat ((es.take i).map entA)).length=i * 4
 d4:(flat ((es.drop i).map entA)).length=(es.length - i) * 4
 split:flat (es.map entA)++pad=flat ((es.take i).map entA)++(flat ((es.drop i).map entA)++pad)
 take:(flat (es.map entA)++pad).take (i * 4)=flat ((es.take i).map entA)
 drop:((flat (es.map entA)++pad).drop (0+i * 4)).take ((es.length - i) * 4)=flat ((es.drop i).map entA)
 new:flat ((es.take i++e::es.drop i).map entA)=flat ((es.take i).map entA)++flat [entA e]++flat ((es.drop i).map entA)
 nl:(es.take i++e::es.drop i).length=es.length+1
 src:∀ o ver L c' (S:List AObj),(flat (es.map entA)++pad).length=(cap+1) * 4→es.length≤cap+1→S[o]? = some (.cells ver 114 (flat (es.map entA)++pad))→SrcA S 4 (.os o ver (0+i * 4) L c') L (es.length - i) (flat ((es.drop i).map entA))
theorem insB (es:List EntV) (e:EntV) (i cap:Nat) (pad:List AV) (hi:i<es.length):InsB es e i cap pad:=by
 have ht4:(flat ((es.take i).map entA)).length=i * 4:=by rw [qat,List.length_take,Nat.min_eq_left (by omega)]
 have hd4:(flat ((es.drop i).map entA)).length=(es.length - i) * 4:=by rw [qat,List.length_drop]
 have hsplit:flat (es.map entA)++pad=flat ((es.take i).map entA)++(flat ((es.drop i).map entA)++pad):=by
  rw [← List.append_assoc,← qdq,List.take_append_drop]
 have hdrop:((flat (es.map entA)++pad).drop (0+i * 4)).take ((es.length - i) * 4)=flat ((es.drop i).map entA):=by rw [Nat.zero_add,hsplit,← ht4,List.drop_left,← hd4,List.take_left]
 refine⟨ht4,hd4,hsplit,by rw [hsplit,← ht4,List.take_left],hdrop,?_,by simp;omega,fun o ver L c' S e3 e5 hS=>?_⟩
 ·rw [qdq]
  simp [flat]
 ·have:=SrcA.os (st:=S) (sz:=4) o ver (0+i * 4) L c' (es.length - i) _ _ hS (by rw [e3];omega) (by rw [hdrop];exact qch fun _=>rfl)
  rw [hdrop] at this
  exact this
set_option maxHeartbeats 4000000 in
theorem q9b (es:List EntV) (e:EntV) (i:Nat) (hi:i<es.length) (hl:es.length<1000000) (st:List AObj) (o ver cap:Nat) (pad:List AV) (e2:st[o]? = some (.cells ver 114 (flat (es.map entA)++pad))) (e3:(flat (es.map entA)++pad).length=(cap+1) * 4) (e5:es.length+1≤cap+1) (e6:cap+1≤maxLen) :
  qn E 239 [.os o ver 0 es.length (cap+1),Iv i,.sl 4 [entA e] none] st fun r st'=>OwnR 4 114 ((es.take i++e::es.drop i).map entA) st (.os o ver 0 es.length (cap+1)) r st':=by
 have hI:=insB es e i cap pad hi
 have hlt:=lt_of_getElem? e2
 have hfl1:(flat [entA e]).length=4:=rfl
 have ht4:=hI.t4
 have hd4:=hI.d4
 have hi1:(if cap+1=i then 0 else 0+i * 4)=0+i * 4:=if_neg (by omega)
 have hi2:(if cap+1=i+1 then 0 else 0+(i+1) * 4)=(i+1) * 4:=by rw [if_neg (by omega)];omega
 obtain⟨B1,hB1⟩:∃ B1,(flat ((es.drop i).map entA)++pad).drop 4=B1:=⟨_,rfl⟩
 obtain⟨A1,hA1⟩:∃ A1,(flat ((es.drop i).map entA)++pad).take 4=A1:=⟨_,rfl⟩
 have hA1l:A1.length=4:=by
  rw [← hA1,List.length_take,List.length_append,hd4]
  omega
 obtain⟨X1,hX1⟩:∃ X1,flat ((es.take i).map entA)++A1++flat ((es.drop i).map entA)++B1.drop ((es.length - i) * 4)=X1:=⟨_,rfl⟩
 have hsp1:zh (flat (es.map entA)++pad) ((i+1) * 4) (flat ((es.drop i).map entA))=X1:=by
  have e1:flat (es.map entA)++pad=(flat ((es.take i).map entA)++A1)++B1:=by rw [hI.split,List.append_assoc,← hA1,← hB1,List.take_append_drop]
  rw [e1,qbb _ _ _ (by rw [List.length_append,ht4,hA1l];omega),hd4,hX1]
 have hsp2:zh X1 (0+i * 4) (flat [entA e])=flat ((es.take i++e::es.drop i).map entA)++B1.drop ((es.length - i) * 4):=by
  have e1:X1=flat ((es.take i).map entA)++(A1++(flat ((es.drop i).map entA)++B1.drop ((es.length - i) * 4))):=by rw [← hX1];simp
  rw [e1,qbb _ _ _ (by rw [ht4];omega),hfl1,List.drop_append_of_le_length (by omega),List.drop_eq_nil_of_le (by omega:A1.length≤4),hI.new]
  simp
 have hsl1:X1.length=(cap+1) * 4:=by
  rw [← hsp1,qej (by rw [e3,hd4];omega),e3]
 have hsl2:(flat ((es.take i++e::es.drop i).map entA)++B1.drop ((es.length - i) * 4)).length=(cap+1) * 4:=by
  rw [← hsp2,qej (by rw [hsl1,hfl1];omega),hsl1]
 have hsrc:=hI.src o ver (es.length+1 - i) (cap+1 - i) st e3 (by omega) e2
 have hnl:=hI.nl
 generalize hXn:flat ((es.take i++e::es.drop i).map entA)++B1.drop ((es.length - i) * 4)=Xn at hsp2 hsl2
 clear hX1 hB1 hA1 hI ht4 hd4
 generalize hdz:flat ((es.drop i).map entA)=dz at hsp1 hsrc
 refine qx Tryz.func239 rfl (Nat.le_of_ble_eq_true rfl) ?_
 rw [List.append_nil]
 generalize flat (es.map entA)++pad=X0 at e2 e3 hsp1
 repeat' (first|apply qt|apply qj|apply qi|apply ql|apply qk)
 refine zg (o:=o) (ver:=ver) (off:=0) (len:=es.length) (cap:=cap+1) (sz:=4) (i:=i) (j:=es.length) (m:=cap+1) rfl rfl rfl ?_ ?_ ?_ (by omega) (by omega) (by omega) ?_
 ·exact⟨_,rfl⟩
 ·exact⟨rfl,rfl⟩
 ·exact rfl
 repeat' (first|(apply jx (n:=1);(iterate 4 exact rfl))|apply qt|apply qj|apply qi|apply ql|apply qk|(apply q7;(iterate 3 exact rfl))|(apply qh;exact rfl;apply y4;exact cAo)|(apply jx;(iterate 4 exact rfl))|(apply jj;exact rfl;exact rfl;exact zy (by omega) (by omega))|apply q9)
 refine qmq rfl rfl rfl ?_
 repeat' (first|apply qt|apply qj|apply qi|apply ql|(apply q7;(iterate 3 exact rfl))|(apply qh;exact rfl;apply y4;exact cAo)|(apply jj;exact rfl;exact rfl;exact zy (by omega) (by omega))|apply q9)
 refine zg (o:=o) (ver:=ver) (off:=0) (len:=es.length) (cap:=cap+1) (sz:=4) (i:=0) (j:=es.length+1) (m:=cap+1) rfl rfl rfl ?_ ?_ ?_ (by omega) (by omega) (by omega) ?_
 ·exact rfl
 ·exact⟨_,rfl⟩
 ·exact rfl
 repeat' (first|apply qt|apply qj|apply qi|apply ql|apply qk|(apply jj;exact rfl;exact rfl;exact zy (by omega) (by omega)))
 refine zg (o:=o) (ver:=ver) (off:=0) (len:=es.length+1) (cap:=cap+1) (sz:=4) (i:=i+1) (j:=es.length+1) (m:=cap+1) rfl rfl rfl ?_ ?_ ?_ (by omega) (by omega) (by omega) ?_
 ·exact⟨_,rfl⟩
 ·exact⟨rfl,rfl⟩
 ·exact rfl
 rw [hi2]
 repeat' (first|(apply q4o;first|apply qt|apply za|apply qj|(apply qh;exact rfl;apply xk;exact cAo)|(apply qh;exact rfl;apply y4;exact cAo)|(apply qh;exact rfl;apply qsc;exact cRa)|(apply qh;exact rfl;apply qyw;exact cRa)|(apply qh;exact rfl;apply cd_n <;> intro h)|(apply qh;exact rfl;apply cd_t;exact cRa)|(apply qh;exact rfl;apply cd_f;exact cRa)|(apply qh;exact rfl;apply cd_d <;> intro h)|(apply qh;exact rfl;apply cd_s <;> intro h)|apply q9|apply vt|apply zi)|(apply qy9;first|(apply jr;(iterate 4 exact rfl))|(apply qex;(iterate 4 exact rfl)))|(apply q7u;first|(apply qe6;exact cAo)|(apply qlu;exact cAo)|(apply qjb;exact cAo)|(apply qqv;exact cAo)|(apply qqu;exact cRa)|(apply qqt;exact cRa)|(apply qzl;exact cRa)|(apply qnl;exact cRa)|(apply qnm <;> intro h)|(apply qhm;exact cRa)|(apply qt0;exact cRa)|(apply qqw;exact cRa)|(apply qf0;exact cRa)|(apply qhn <;> intro h)|(apply qt1 <;> intro h))|(apply q7t;first|apply qs6|(apply q65;(iterate 4 exact rfl))|(apply q90;exact rfl;exact rfl;exact zy (by omega) (by omega))|(apply q67;(iterate 4 exact rfl);exact cAs;exact cAs)|(apply qv4;(iterate 5 exact rfl))|(apply qp9;exact rfl;exact rfl;exact cOs)|(apply qm2;(iterate 3 exact rfl))|(apply qkv;(iterate 5 exact rfl))|(apply qmz;(iterate 4 exact rfl))|(apply qmy;(iterate 3 exact rfl))|(apply q04;(iterate 3 exact rfl);exact cAs)|(apply qxh;exact rfl;exact rfl)|(apply qs3;exact rfl;exact rfl)|(apply qs4;(iterate 3 exact rfl);omega)|(apply qp8;(iterate 3 exact rfl))|apply qoy|apply q03|(apply q9y;exact rfl;exact rfl;exact zy (by omega) (by omega))|(apply q66;(iterate 3 exact rfl))|(apply q68;(iterate 3 exact rfl);exact cAs)|(apply q64;(iterate 3 exact rfl);exact cAs)|(apply qyn;exact rfl;exact rfl))|(apply qy8;first|(apply q7;(iterate 3 exact rfl))|(apply xa;(iterate 3 exact rfl))|(apply qae;exact rfl;exact rfl;exact cOs)|(apply jj;exact rfl;exact rfl;exact zy (by omega) (by omega))|(apply qcx;exact rfl;exact rfl;exact zy (by omega) (by omega))|(apply qbm;exact rfl;exact rfl)|(apply qbn;exact rfl;exact rfl)|(apply qab;exact rfl;exact rfl)|(apply qd0;exact rfl;exact rfl)|(apply x5;(iterate 3 exact rfl))|(apply qip;(iterate 3 exact rfl))|(apply qa2;exact rfl;exact rfl;(first|exact jh _|exact rfl);first|exact jh _|exact rfl)|(apply qmn;exact rfl;exact rfl;(first|exact jh _|exact rfl);first|exact jh _|exact rfl)|(apply q01;exact rfl;exact rfl;(first|exact jh _|exact rfl);first|exact jh _|exact rfl)|(apply qci;(iterate 3 exact rfl))|(apply qhd;(iterate 3 exact rfl)))|(apply q1u;first|(apply j9;(iterate 3 exact rfl))|(apply qrs;(iterate 5 exact rfl))|(apply km;(iterate 5 exact rfl)))|(apply q1v;first|(apply qmv;exact rfl)|(apply wx;exact rfl)|(apply qew;exact rfl))|(apply qza;first|(apply qp4;(iterate 3 exact rfl);exact cAs)|(apply qp2;(iterate 3 exact rfl);exact cAs)|(apply qp3;(iterate 4 exact rfl);exact cAs;exact cAs)|(apply qgu;(iterate 4 exact rfl);(first|assumption|omega|exact Nat.succ_le_succ (Nat.zero_le _)|(simp;omega));exact rfl))|(apply q1t;first|(apply yx;(iterate 3 exact rfl))|(apply jx;(iterate 4 exact rfl)))|(apply qo8;first|(apply jg;(iterate 3 exact rfl))|(apply xj;(iterate 4 exact rfl)))|(apply qzb;first|(apply qow;(iterate 11 exact rfl))|(apply kp;(iterate 11 exact rfl)))|(apply q4p;first|apply qi|apply ql|apply qk|(apply vl;exact rfl;exact rfl)|(apply zf;exact rfl;apply qkj;exact cAo)|(apply zf;exact rfl;apply qsj;exact cAo)|(apply zf;exact rfl;apply q6u;exact cRa)|(apply zf;exact rfl;apply qz6;exact cRa)|(apply zf;exact rfl;apply pk_t;exact cRa)|(apply zf;exact rfl;apply pk_f;exact cRa)|(apply ku;exact rfl;exact rfl)|apply qdz|(apply vo;exact rfl;exact rfl)|(apply qcw;(iterate 4 exact rfl))|(apply qhc;(iterate 3 exact rfl))|(apply qlj;(iterate 3 exact rfl);exact cAs)|(apply qa1;(iterate 3 exact rfl))|(apply qfm;(iterate 9 exact rfl))|(apply wc;exact rfl;exact rfl)|(apply qgf;(iterate 4 exact rfl);(first|assumption|omega|decide);exact rfl)|(apply qak;(iterate 4 exact rfl);first|assumption|omega|decide)))
 refine qru (xs:=[entA e]) (o:=o) (ver:=ver) rfl rfl e2 (by simp [flat,AV.cells]) quu ?_
 repeat' (first|apply qt|apply qi|(apply wx;exact rfl)|(apply qh;exact rfl;apply qsc;exact cRa))
 refine qqb [(0,.os o ver 0 (es.length+1) (cap+1)),(1,Iv i),(2,.sl 4 [entA e] none),(7,Iv 1)] st [] ⟨rfl,rfl,rfl,rfl,trivial⟩ rfl rfl fun t=>?_
 refine qo3 (fun s=>StA [(0,.os o ver 0 (es.length+1) (cap+1)),(1,Iv i),(2,.sl 4 [entA e] none)] (st.set o (.cells ver 114 X1)) [] s) ?_ ?_
 ·refine qfo rfl rfl ?_
  (apply wr 0;exact rfl;kernel_rfl;kernel_rfl;kernel_rfl;exact rfl;exact xf)
  (apply wr 1;exact rfl;kernel_rfl;kernel_rfl;kernel_rfl;exact rfl;exact xf)
  (apply wr 2;exact rfl;kernel_rfl;kernel_rfl;kernel_rfl;exact rfl;exact xf)
  (apply wr 5;exact rfl;kernel_rfl;kernel_rfl;kernel_rfl;exact rfl;exact xf)
  (apply wr 6;exact rfl;kernel_rfl;kernel_rfl;kernel_rfl;exact rfl;exact xf)
  refine vi [3,7] (by kernel_rfl) rfl ⟨⟨_,rfl,?_⟩,⟨_,rfl,?_⟩,trivial⟩
  ·(apply jj;exact rfl;exact rfl;exact zy (by omega) (by omega))
   apply qi
   refine vi [4,7] (by kernel_rfl) rfl ⟨⟨_,rfl,?_⟩,⟨_,rfl,?_⟩,trivial⟩
   ·(refine zg (o:=o) (ver:=ver) (off:=0) (len:=es.length+1) (cap:=cap+1) (sz:=4) (i:=i+1) (j:=es.length+1) (m:=cap+1) rfl rfl rfl ?_ ?_ ?_ (by omega) (by omega) (by omega) ?_;exact⟨_,rfl⟩;exact⟨rfl,rfl⟩;exact rfl;rw [hi2])
    apply qi
    refine vi [7] (by kernel_rfl) rfl ⟨⟨_,rfl,?_⟩,trivial⟩
    (refine zg (o:=o) (ver:=ver) (off:=0) (len:=es.length+1) (cap:=cap+1) (sz:=4) (i:=i) (j:=es.length+1) (m:=cap+1) rfl rfl rfl ?_ ?_ ?_ (by omega) (by omega) (by omega) ?_;exact⟨_,rfl⟩;exact⟨rfl,rfl⟩;exact rfl;rw [hi1])
    apply qi
    refine vi [8] (by kernel_rfl) rfl ⟨⟨_,rfl,?_⟩,trivial⟩
    (refine xm (o:=o) (ver:=ver) (off:=(i+1) * 4) (sz:=4) (bytes:=56) (m:=es.length - i) rfl rfl e2 hsrc ?_ rfl ⟨⟨_,_,rfl,rfl,rfl,rfl,rfl⟩⟩ ?_ ?_;(show min _ _=_;omega);(rw [e3];omega);rw [hsp1])
    apply qi
    refine qaf (by kernel_rfl) ?_
    exact kz ⟨rfl,rfl,rfl,trivial⟩
   ·(refine zg (o:=o) (ver:=ver) (off:=0) (len:=es.length+1) (cap:=cap+1) (sz:=4) (i:=i) (j:=es.length+1) (m:=cap+1) rfl rfl rfl ?_ ?_ ?_ (by omega) (by omega) (by omega) ?_;exact⟨_,rfl⟩;exact⟨rfl,rfl⟩;exact rfl;rw [hi1])
    apply qi
    refine vi [4] (by kernel_rfl) rfl ⟨⟨_,rfl,?_⟩,trivial⟩
    (refine zg (o:=o) (ver:=ver) (off:=0) (len:=es.length+1) (cap:=cap+1) (sz:=4) (i:=i+1) (j:=es.length+1) (m:=cap+1) rfl rfl rfl ?_ ?_ ?_ (by omega) (by omega) (by omega) ?_;exact⟨_,rfl⟩;exact⟨rfl,rfl⟩;exact rfl;rw [hi2])
    apply qi
    refine vi [8] (by kernel_rfl) rfl ⟨⟨_,rfl,?_⟩,trivial⟩
    (refine xm (o:=o) (ver:=ver) (off:=(i+1) * 4) (sz:=4) (bytes:=56) (m:=es.length - i) rfl rfl e2 hsrc ?_ rfl ⟨⟨_,_,rfl,rfl,rfl,rfl,rfl⟩⟩ ?_ ?_;(show min _ _=_;omega);(rw [e3];omega);rw [hsp1])
    apply qi
    refine qaf (by kernel_rfl) ?_
    exact kz ⟨rfl,rfl,rfl,trivial⟩
  ·(refine zg (o:=o) (ver:=ver) (off:=0) (len:=es.length+1) (cap:=cap+1) (sz:=4) (i:=i) (j:=es.length+1) (m:=cap+1) rfl rfl rfl ?_ ?_ ?_ (by omega) (by omega) (by omega) ?_;exact⟨_,rfl⟩;exact⟨rfl,rfl⟩;exact rfl;rw [hi1])
   apply qi
   refine vi [3] (by kernel_rfl) rfl ⟨⟨_,rfl,?_⟩,trivial⟩
   (apply jj;exact rfl;exact rfl;exact zy (by omega) (by omega))
   apply qi
   refine vi [4] (by kernel_rfl) rfl ⟨⟨_,rfl,?_⟩,trivial⟩
   (refine zg (o:=o) (ver:=ver) (off:=0) (len:=es.length+1) (cap:=cap+1) (sz:=4) (i:=i+1) (j:=es.length+1) (m:=cap+1) rfl rfl rfl ?_ ?_ ?_ (by omega) (by omega) (by omega) ?_;exact⟨_,rfl⟩;exact⟨rfl,rfl⟩;exact rfl;rw [hi2])
   apply qi
   refine vi [8] (by kernel_rfl) rfl ⟨⟨_,rfl,?_⟩,trivial⟩
   (refine xm (o:=o) (ver:=ver) (off:=(i+1) * 4) (sz:=4) (bytes:=56) (m:=es.length - i) rfl rfl e2 hsrc ?_ rfl ⟨⟨_,_,rfl,rfl,rfl,rfl,rfl⟩⟩ ?_ ?_;(show min _ _=_;omega);(rw [e3];omega);rw [hsp1])
   apply qi
   refine qaf (by kernel_rfl) ?_
   exact kz ⟨rfl,rfl,rfl,trivial⟩
 ·rintro _ ⟨t,rfl⟩
  have hob:(st.set o (AObj.cells ver 114 X1))[o]? = some (.cells ver 114 X1):=jy e2
  repeat' (first|apply qt|apply qj|apply ql)
  refine zg (o:=o) (ver:=ver) (off:=0) (len:=es.length+1) (cap:=cap+1) (sz:=4) (i:=i) (j:=es.length+1) (m:=cap+1) rfl rfl rfl ?_ ?_ ?_ (by omega) (by omega) (by omega) ?_
  ·exact⟨_,rfl⟩
  ·exact⟨rfl,rfl⟩
  ·exact rfl
  rw [hi1]
  repeat' (first|apply ql)
  refine xm (o:=o) (ver:=ver) (off:=0+i * 4) (sz:=4) (bytes:=56) (L:=1) (m:=1) rfl rfl hob (.sl [entA e] none rfl) ?_ rfl ⟨⟨_,_,rfl,rfl,rfl,rfl,rfl⟩⟩ ?_ ?_
  ·show min _ _=_
   omega
  ·rw [hsl1]
   omega
  rw [hsp2]
  repeat' (first|apply qt|apply qj|apply qi|apply ql|apply qk|apply zi)
  refine qv rfl (zw rfl) ?_
  show OwnR 4 114 _ st _ (.os o ver 0 (es.length+1) (cap+1)) ((st.set o _).set o (.cells ver 114 Xn))
  rw [List.set_set,← hXn]
  rw [← hXn] at hsl2
  exact⟨.inr ⟨o,ver,cap,_,by rw [List.length_map,hnl],jy e2,hsl2,qez _,by rw [List.length_map,hnl];omega,e6⟩,by simp,fun j hj hne=>List.getElem?_set_ne fun e=>hne (by rw [e];rfl),fun o' ho'=>.inr ho'⟩
set_option maxHeartbeats 4000000 in
theorem q9a (es:List EntV) (e:EntV) (i:Nat) (hi:i<es.length) (hl:es.length<1000000) (st:List AObj) (o ver cap:Nat) (pad:List AV) (e2:st[o]? = some (.cells ver 114 (flat (es.map entA)++pad))) (e3:(flat (es.map entA)++pad).length=(cap+1) * 4) (e5:es.length=cap+1) (e6:cap+1≤maxLen) :
  qn E 239 [.os o ver 0 es.length (cap+1),Iv i,.sl 4 [entA e] none] st fun r st'=>OwnR 4 114 ((es.take i++e::es.drop i).map entA) st (.os o ver 0 es.length (cap+1)) r st':=by
 have hI:=insB es e i cap pad hi
 have hlt:=lt_of_getElem? e2
 have hfl1:(flat [entA e]).length=4:=rfl
 have ht4:=hI.t4
 have hd4:=hI.d4
 have htake:=hI.take
 have hi1:(if cap+1=i then 0 else 0+i * 4)=0+i * 4:=if_neg (by omega)
 have hsrc:=fun S=>hI.src o ver (es.length - i) (cap+1 - i) S e3 (by omega)
 have hnl:=hI.nl
 have hnew:=hI.new
 have hk9:Iv ((es.length:Int)+1 - i)=Iv ((es.length+1 - i:Nat):Int):=congrArg (fun z:Int=>Iv z) (by omega)
 have hkk:i+(es.length+1 - i)=es.length+1:=by omega
 generalize flat ((es.drop i).map entA)=dz at hsrc hd4 hnew
 refine qx Tryz.func239 rfl (Nat.le_of_ble_eq_true rfl) ?_
 rw [List.append_nil]
 generalize flat (es.map entA)++pad=X0 at e2 e3 htake hsrc
 repeat' (first|apply qt|apply qj|apply qi|apply ql|apply qk)
 refine zg (o:=o) (ver:=ver) (off:=0) (len:=es.length) (cap:=cap+1) (sz:=4) (i:=i) (j:=es.length) (m:=cap+1) rfl rfl rfl ?_ ?_ ?_ (by omega) (by omega) (by omega) ?_
 ·exact⟨_,rfl⟩
 ·exact⟨rfl,rfl⟩
 ·exact rfl
 repeat' (first|(apply jx (n:=1);(iterate 4 exact rfl))|apply qt|apply qj|apply qi|apply ql|apply qk|(apply q7;(iterate 3 exact rfl))|(apply qh;exact rfl;apply y4;exact cAo)|(apply jx;(iterate 4 exact rfl))|(apply jj;exact rfl;exact rfl;exact zy (by omega) (by omega))|apply q9)
 refine qmq rfl rfl rfl ?_
 refine qmw [(0,.os o ver 0 es.length (cap+1)),(1,Iv i),(2,.sl 4 [entA e] none),(7,Iv 1),(8,Iv es.length),(28,Iv ((es.length:Int)+1)),(30,Iv ((cap+1:Nat):Int))] st [] ⟨rfl,rfl,rfl,rfl,rfl,rfl,rfl,trivial⟩ rfl rfl fun t=>?_
 repeat' (first|apply qt|apply qj|apply qi|apply ql|(apply q7;(iterate 3 exact rfl))|(apply qh;exact rfl;apply xk;exact cAo))
 refine zg (o:=o) (ver:=ver) (off:=0) (len:=es.length) (cap:=cap+1) (sz:=4) (i:=0) (j:=i) (m:=cap+1) rfl rfl rfl ?_ ?_ ?_ (by omega) (by omega) (by omega) ?_
 ·exact rfl
 ·exact⟨_,rfl⟩
 ·exact rfl
 repeat' (first|apply ql|(apply jj;exact rfl;exact rfl;exact zy (by omega) (by omega))|(apply qcx;exact rfl;exact rfl;exact zy (by omega) (by omega)))
 refine qlh (sz:=4) (bytes:=56) (o:=o) (ver:=ver) (n:=i) (cap:=cap+1) (k:=es.length+1 - i) (cs:=X0) rfl hk9 e2 rfl rfl ⟨⟨_,_,rfl,rfl,rfl,rfl,rfl⟩⟩ (by omega) (by omega) (by omega) (by rw [e3];omega) (by simp only [maxLen];omega) (by omega) fun cap' zs z1 z2 z3=>?_
 rw [hkk,htake]
 refine qmw [(0,.os o ver 0 es.length (cap+1)),(1,Iv i),(2,.sl 4 [entA e] none),(7,Iv 1),(40,.os st.length 0 0 (es.length+1) cap')] (st++[.cells 0 114 (flat ((es.take i).map entA)++zs)]) [] ⟨rfl,rfl,rfl,rfl,rfl,trivial⟩ rfl rfl fun t=>?_
 obtain⟨cap',rfl⟩:∃ c,cap'=c+1:=⟨cap' - 1,by omega⟩
 have hi3:(if cap'+1=i then 0 else 0+i * 4)=0+i * 4:=if_neg (by omega)
 have hi4:(if cap'+1=i+1 then 0 else 0+(i+1) * 4)=(i+1) * 4:=by rw [if_neg (by omega)];omega
 have hsp1:zh (flat ((es.take i).map entA)++zs) (0+i * 4) (flat [entA e])=(flat ((es.take i).map entA)++flat [entA e])++zs.drop 4:=qbb _ _ _ (by rw [ht4];omega)
 have hsp2:zh ((flat ((es.take i).map entA)++flat [entA e])++zs.drop 4) ((i+1) * 4) dz=flat ((es.take i++e::es.drop i).map entA)++(zs.drop 4).drop dz.length:=by
  rw [qbb _ _ _ (by rw [List.length_append,ht4,hfl1];omega),hnew]
 have hl1:((flat ((es.take i).map entA)++flat [entA e])++zs.drop 4).length=(cap'+1) * 4:=by
  simp only [List.length_append,List.length_drop,ht4,hfl1,z1]
  omega
 have hl2:(flat ((es.take i++e::es.drop i).map entA)++(zs.drop 4).drop dz.length).length=(cap'+1) * 4:=by
  rw [← hsp2,qej (by rw [hl1,hd4];omega),hl1]
 have hl0:(flat ((es.take i).map entA)++zs).length=(cap'+1) * 4:=by
  rw [List.length_append,ht4,z1]
  omega
 repeat' (first|apply qt|apply qj|apply qi|apply ql|apply qk)
 refine zg (o:=st.length) (ver:=0) (off:=0) (len:=es.length+1) (cap:=cap'+1) (sz:=4) (i:=i) (j:=es.length+1) (m:=cap'+1) rfl rfl rfl ?_ ?_ ?_ (by omega) (by omega) (by omega) ?_
 ·exact⟨_,rfl⟩
 ·exact⟨rfl,rfl⟩
 ·exact rfl
 rw [hi3]
 repeat' (first|apply ql)
 refine xm (o:=st.length) (ver:=0) (off:=0+i * 4) (sz:=4) (bytes:=56) (L:=1) (m:=1) rfl rfl wl (.sl [entA e] none rfl) ?_ rfl ⟨⟨_,_,rfl,rfl,rfl,rfl,rfl⟩⟩ ?_ ?_
 ·show min _ _=_
  omega
 ·rw [hl0]
  omega
 rw [hsp1]
 generalize hX1:(flat ((es.take i).map entA)++flat [entA e])++zs.drop 4=X1 at hsp2 hl1
 have hbo:(st++[AObj.cells 0 114 (flat ((es.take i).map entA)++zs)])[st.length]? = some (.cells 0 114 (flat ((es.take i).map entA)++zs)):=wl
 have hS1n:((st++[AObj.cells 0 114 (flat ((es.take i).map entA)++zs)]).set st.length (.cells 0 114 X1))[st.length]? = some (.cells 0 114 X1):=jy hbo
 have hS1o:((st++[AObj.cells 0 114 (flat ((es.take i).map entA)++zs)]).set st.length (.cells 0 114 X1))[o]? = some (.cells ver 114 X0):=by
  rw [List.getElem?_set_ne (by omega),List.getElem?_append_left hlt]
  exact e2
 have hS1j:∀ j,j<st.length→((st++[AObj.cells 0 114 (flat ((es.take i).map entA)++zs)]).set st.length (.cells 0 114 X1))[j]? = st[j]?:=fun j hj=>by
  rw [List.getElem?_set_ne (by omega),List.getElem?_append_left hj]
 have hS1l:((st++[AObj.cells 0 114 (flat ((es.take i).map entA)++zs)]).set st.length (.cells 0 114 X1)).length=st.length+1:=by simp
 repeat' (first|apply qt|apply qi)
 refine qqb [(0,.os o ver 0 es.length (cap+1)),(1,Iv i),(7,Iv 1),(9,.os st.length 0 0 (es.length+1) (cap'+1))] ((st++[AObj.cells 0 114 (flat ((es.take i).map entA)++zs)]).set st.length (.cells 0 114 X1)) [] ⟨rfl,rfl,rfl,rfl,trivial⟩ rfl rfl fun t=>?_
 generalize (st++[AObj.cells 0 114 (flat ((es.take i).map entA)++zs)]).set st.length (.cells 0 114 X1)=S1 at hS1n hS1o hS1j hS1l
 refine qo3 (fun s=>StA [(9,.os st.length 0 0 (es.length+1) (cap'+1))] (S1.set st.length (.cells 0 114 (flat ((es.take i++e::es.drop i).map entA)++(zs.drop 4).drop dz.length))) [] s) ?_ ?_
 ·refine qfo rfl rfl ?_
  (apply wr 0;exact rfl;kernel_rfl;kernel_rfl;kernel_rfl;exact rfl;exact xf)
  (apply wr 1;exact rfl;kernel_rfl;kernel_rfl;kernel_rfl;exact rfl;exact xf)
  (apply wr 2;exact rfl;kernel_rfl;kernel_rfl;kernel_rfl;exact rfl;exact xf)
  (apply wr 5;exact rfl;kernel_rfl;kernel_rfl;kernel_rfl;exact rfl;exact xf)
  (apply wr 6;exact rfl;kernel_rfl;kernel_rfl;kernel_rfl;exact rfl;exact xf)
  refine vi [3,7] (by kernel_rfl) rfl ⟨⟨_,rfl,?_⟩,⟨_,rfl,?_⟩,trivial⟩
  ·(apply jj;exact rfl;exact rfl;exact zy (by omega) (by omega))
   apply qi
   refine vi [4,7] (by kernel_rfl) rfl ⟨⟨_,rfl,?_⟩,⟨_,rfl,?_⟩,trivial⟩
   ·(refine zg (o:=st.length) (ver:=0) (off:=0) (len:=es.length+1) (cap:=cap'+1) (sz:=4) (i:=i+1) (j:=es.length+1) (m:=cap'+1) rfl rfl rfl ?_ ?_ ?_ (by omega) (by omega) (by omega) ?_;exact⟨_,rfl⟩;exact⟨rfl,rfl⟩;exact rfl;rw [hi4])
    apply qi
    refine vi [7] (by kernel_rfl) rfl ⟨⟨_,rfl,?_⟩,trivial⟩
    (refine zg (o:=o) (ver:=ver) (off:=0) (len:=es.length) (cap:=cap+1) (sz:=4) (i:=i) (j:=es.length) (m:=cap+1) rfl rfl rfl ?_ ?_ ?_ (by omega) (by omega) (by omega) ?_;exact⟨_,rfl⟩;exact⟨rfl,rfl⟩;exact rfl;rw [hi1])
    apply qi
    refine vi [8] (by kernel_rfl) rfl ⟨⟨_,rfl,?_⟩,trivial⟩
    (refine xm (o:=st.length) (ver:=0) (off:=(i+1) * 4) (sz:=4) (bytes:=56) (m:=es.length - i) rfl rfl hS1n (hsrc S1 hS1o) ?_ rfl ⟨⟨_,_,rfl,rfl,rfl,rfl,rfl⟩⟩ ?_ ?_;(show min _ _=_;omega);(rw [hl1];omega);rw [hsp2])
    apply qi
    refine qaf (by kernel_rfl) ?_
    exact kz ⟨rfl,trivial⟩
   ·(refine zg (o:=o) (ver:=ver) (off:=0) (len:=es.length) (cap:=cap+1) (sz:=4) (i:=i) (j:=es.length) (m:=cap+1) rfl rfl rfl ?_ ?_ ?_ (by omega) (by omega) (by omega) ?_;exact⟨_,rfl⟩;exact⟨rfl,rfl⟩;exact rfl;rw [hi1])
    apply qi
    refine vi [4] (by kernel_rfl) rfl ⟨⟨_,rfl,?_⟩,trivial⟩
    (refine zg (o:=st.length) (ver:=0) (off:=0) (len:=es.length+1) (cap:=cap'+1) (sz:=4) (i:=i+1) (j:=es.length+1) (m:=cap'+1) rfl rfl rfl ?_ ?_ ?_ (by omega) (by omega) (by omega) ?_;exact⟨_,rfl⟩;exact⟨rfl,rfl⟩;exact rfl;rw [hi4])
    apply qi
    refine vi [8] (by kernel_rfl) rfl ⟨⟨_,rfl,?_⟩,trivial⟩
    (refine xm (o:=st.length) (ver:=0) (off:=(i+1) * 4) (sz:=4) (bytes:=56) (m:=es.length - i) rfl rfl hS1n (hsrc S1 hS1o) ?_ rfl ⟨⟨_,_,rfl,rfl,rfl,rfl,rfl⟩⟩ ?_ ?_;(show min _ _=_;omega);(rw [hl1];omega);rw [hsp2])
    apply qi
    refine qaf (by kernel_rfl) ?_
    exact kz ⟨rfl,trivial⟩
  ·(refine zg (o:=o) (ver:=ver) (off:=0) (len:=es.length) (cap:=cap+1) (sz:=4) (i:=i) (j:=es.length) (m:=cap+1) rfl rfl rfl ?_ ?_ ?_ (by omega) (by omega) (by omega) ?_;exact⟨_,rfl⟩;exact⟨rfl,rfl⟩;exact rfl;rw [hi1])
   apply qi
   refine vi [3] (by kernel_rfl) rfl ⟨⟨_,rfl,?_⟩,trivial⟩
   (apply jj;exact rfl;exact rfl;exact zy (by omega) (by omega))
   apply qi
   refine vi [4] (by kernel_rfl) rfl ⟨⟨_,rfl,?_⟩,trivial⟩
   (refine zg (o:=st.length) (ver:=0) (off:=0) (len:=es.length+1) (cap:=cap'+1) (sz:=4) (i:=i+1) (j:=es.length+1) (m:=cap'+1) rfl rfl rfl ?_ ?_ ?_ (by omega) (by omega) (by omega) ?_;exact⟨_,rfl⟩;exact⟨rfl,rfl⟩;exact rfl;rw [hi4])
   apply qi
   refine vi [8] (by kernel_rfl) rfl ⟨⟨_,rfl,?_⟩,trivial⟩
   (refine xm (o:=st.length) (ver:=0) (off:=(i+1) * 4) (sz:=4) (bytes:=56) (m:=es.length - i) rfl rfl hS1n (hsrc S1 hS1o) ?_ rfl ⟨⟨_,_,rfl,rfl,rfl,rfl,rfl⟩⟩ ?_ ?_;(show min _ _=_;omega);(rw [hl1];omega);rw [hsp2])
   apply qi
   refine qaf (by kernel_rfl) ?_
   exact kz ⟨rfl,trivial⟩
 ·rintro _ ⟨t,rfl⟩
  repeat' (first|apply qt|apply qj|apply qi|apply ql|apply qk|apply zi)
  refine qv rfl (zw rfl) ?_
  show OwnR 4 114 _ st _ (.os st.length 0 0 (es.length+1) (cap'+1)) (S1.set st.length (.cells 0 114 (flat ((es.take i++e::es.drop i).map entA)++(zs.drop 4).drop dz.length)))
  refine⟨.inr ⟨st.length,0,cap',_,by rw [List.length_map,hnl],jy hS1n,hl2,qez _,by rw [List.length_map,hnl];omega,z3⟩,by rw [List.length_set,hS1l];omega,fun j hj _=>?_,fun o' ho'=>?_⟩
  ·rw [List.getElem?_set_ne (by omega)]
   exact hS1j j hj
  ·simp only [qy,Option.some.injEq] at ho'
   left
   omega
theorem q3j (es:List EntV) (e:EntV) (i:Nat) (hi:i≤es.length) (hl:es.length<1000000) (st:List AObj) (c:AV) (hc:OwnS st 4 114 (es.map entA) c):qn E 239 [c,Iv i,.sl 4 [entA e] none] st fun r st'=>OwnR 4 114 ((es.take i++e::es.drop i).map entA) st c r st':=by
 have hml:(es.map entA).length=es.length:=by simp
 have hap:i=es.length→(es.take i++e::es.drop i).map entA=es.map entA++[entA e]:=fun h=>by subst h;simp
 rcases hc with⟨h0,hnr⟩ | ⟨o,ver,cap,pad,rfl,e2,e3,e4,e5,e6⟩
 ·have hes:es=[]:=by simpa using h0
  subst hes
  obtain rfl:i=0:=by simpa using hi
  rw [hap rfl]
  exact q88 e st c hnr
 ·rw [hml] at e5 ⊢
  by_cases hin:i=es.length
  ·rw [hap hin]
   subst hin
   exact q89 es e hl st o ver cap pad e2 e3 e5 e6
  ·by_cases hroom:es.length+1≤cap+1
   ·exact q9b es e i (by omega) hl st o ver cap pad e2 e3 hroom e6
   ·exact q9a es e i (by omega) hl st o ver cap pad e2 e3 (by omega) e6
end Go.Proofs.YtejoahlpbckbeaaGreatDoor
namespace Go.Pl
open Go Go.Proofs
def qeh (l:qp) (i:Nat) (x:qu):qp:=match l.ents[i]? with
 |some e=>⟨l.ents.set i ⟨x,e.id⟩,l.next,l.many⟩
 |none=>l
def v8 (l:qp) (id:Int) (fs:List Fld):ErrV×qp:=if atF l id<0 then (.num 7,l) else if zl fs = .no then (.no,qeh l (atF l id).toNat (wb fs)) else (zl fs,l)
def delL (l:qp) (i:Nat):qp:=⟨l.ents.take i++l.ents.drop (i+1),l.next,l.many - 1⟩
def delF (l:qp) (id:Int):ErrV×qp:=if atF l id<0 then (.num 7,l) else (.no,delL l (atF l id).toNat)
def insL (l:qp) (k:Nat) (x:qu):qp:=⟨l.ents.take k++⟨x,l.next⟩::l.ents.drop k,l.next+1,l.many+1⟩
def insF (l:qp) (id:Int) (fs:List Fld):Int×ErrV×qp:=
 if atF l id<0∧id≠0 then (0,.num 7,l) else if zl fs = .no then (if 400≤l.many then (0,.num 11,l) else (l.next,.no,insL l (atF l id+1).toNat (wb fs))) else (0,zl fs,l)
structure LB (n:Nat) (l:qp):Prop where
 small:n<900000
 len:l.ents.length≤n
 nx0:1≤l.next
 nx1:l.next≤n+1
 mn0 : -(n:Int)≤l.many
 mn1:l.many≤n
theorem q5x {n:Nat} {l:qp} (h:LB n l) (hs:n+1<900000) (id:Int) (fs:List Fld):LB (n+1) (v8 l id fs).2:=by
 have h1:=h.len;have h2:=h.nx0;have h3:=h.nx1;have h4:=h.mn0;have h5:=h.mn1
 unfold v8
 split
 ·exact⟨hs,by simp only;omega,h2,by simp only;omega,by simp only;omega,by simp only;omega⟩
 ·split
  ·unfold qeh
   split
   ·exact⟨hs,by simp;omega,h2,by simp only;omega,by simp only;omega,by simp only;omega⟩
   ·exact⟨hs,by simp only;omega,h2,by simp only;omega,by simp only;omega,by simp only;omega⟩
  ·exact⟨hs,by simp only;omega,h2,by simp only;omega,by simp only;omega,by simp only;omega⟩
theorem q7p {n:Nat} {l:qp} (h:LB n l) (hs:n+1<900000) (id:Int):LB (n+1) (delF l id).2:=by
 have h1:=h.len;have h2:=h.nx0;have h3:=h.nx1;have h4:=h.mn0;have h5:=h.mn1
 unfold delF
 split
 ·exact⟨hs,by simp only;omega,h2,by simp only;omega,by simp only;omega,by simp only;omega⟩
 ·exact⟨hs,by simp [delL];omega,h2,by simp only [delL];omega,by simp only [delL];omega,by simp only [delL];omega⟩
theorem q77 {n:Nat} {l:qp} (h:LB n l) (hs:n+1<900000) (id:Int) (fs:List Fld):LB (n+1) (insF l id fs).2.2:=by
 have h1:=h.len;have h2:=h.nx0;have h3:=h.nx1;have h4:=h.mn0;have h5:=h.mn1
 have same:LB (n+1) l:=⟨hs,by omega,h2,by omega,by omega,by omega⟩
 unfold insF
 split
 ·exact same
 ·split
  ·split
   ·exact same
   ·exact⟨hs,by simp [insL];omega,by simp only [insL];omega,by simp only [insL];omega,by simp only [insL];omega,by simp only [insL];omega⟩
  ·exact same
end Go.Pl
namespace Go.Proofs.YtejoahlpbckbeaaGreatDoor
open Go Go.Av Go.RowKit Go.Proofs Go.Pl
def oneF (l:qp) (x:qr):Int×ErrV×qp:=if x.kind=1 then (0,v8 l x.id x.fields) else if x.kind=2 then (0,delF l x.id) else insF l x.id x.fields
theorem qpg {n:Nat} {l:qp} (h:LB n l) (hs:n+1<900000) (x:qr):LB (n+1) (oneF l x).2.2:=by
 unfold oneF
 split
 ·exact q5x h hs _ _
 ·split
  ·exact q7p h hs _
  ·exact q77 h hs _ _
theorem q8h (l:qp) (hl:l.ents.length<1000000):jo E 156 [.a (ki l)] 0 (hpF []) ⟨.bx 0 0,je [],lstH 1 l++j6 [],2⟩:=by
 refine vj [.a (ki l)] [] 0 (.bx 0 0) (lstH 1 l) 2 Tryz.func156 rfl rfl rfl rfl fun S F ρ=>?_
 apply qe [19]
 repeat' (first|apply And.intro|(intro h;try exact cDd)|exact⟨Tryz.call199⟩|(refine Exists.intro _ ⟨qwb [.sl 4 (l.ents.map entA) none] _ (fun _=>rfl) (fun st=>qyz l.ents st hl),?_⟩)|exact cSd|apply qd [19]|refine exr ?_|refine qg ?_)
theorem q8o (n:Nat) (l:qp) (id:Int) (fs:List Fld) (hB:LB n l) (hK:KeyB fs) (hl:fs.length<1000000):jo E 200 [.bx 0 0,.i id,.a (zr fs)] 2 (hpF (lstH 1 l)) ⟨.a (errA (v8 l id fs).1),je (lstH 1 l),lstH 2 (v8 l id fs).2++j6 (lstH 1 l),3⟩:=by
 refine vj [.bx 0 0,.i id,.a (zr fs)] (lstH 1 l) 2 (.a (errA (v8 l id fs).1)) (lstH 2 (v8 l id fs).2) 3 Tryz.func200 rfl rfl rfl rfl fun S F ρ=>?_
 have hle:=hB.len
 have hsm:=hB.small
 have h1:=qo1 l id (by omega)
 have h2:=fun st=>qx1 fs st hK hl
 unfold v8
 rcases qgv l id with h | ⟨i,e,h,he,hid,hid1⟩
 ·rw [h] at h1 ⊢
  rw [if_pos (by decide)]
  apply qe []
  repeat' (first|apply And.intro|(intro h;try exact cDd)|exact⟨Tryz.call236⟩|(refine z0 h1 ?_)|exact cSd|apply qd []|refine exr ?_|refine qg ?_)
 ·rw [h] at h1 ⊢
  rw [if_neg (by omega)]
  have hm:(l.ents.map entA)[i]? = some (entA e):=by rw [List.getElem?_map,he];rfl
  have hil:=lt_of_getElem? hm
  unfold wb at h2 ⊢
  cases hc:zl fs with
  |no=>
   rw [hc,if_pos rfl] at h2
   rw [if_pos rfl,if_pos rfl]
   unfold qeh
   rw [Int.toNat_natCast,he]
   apply qe []
   repeat' (first|apply And.intro|(intro h;try exact cDd)|exact⟨Tryz.call236⟩|(refine z0 h1 ?_)|exact⟨Tryz.call237⟩|refine cpe h2 ?_|(refine qbx (i:=i) rfl rfl rfl rfl rfl rfl (by omega) ?_)|(refine qf6 (i:=i) (j:=0) (z:=entA e) (z':=entA ⟨⟨3,js fs,fs⟩,e.id⟩) (u:=wn ⟨3,js fs,fs⟩) rfl rfl (fun _=>rfl) rfl rfl rfl hm rfl rfl ?_)|exact cSd|apply qd []|refine exr ?_|refine qg ?_)
   all_goals (simp [List.map_set];done)
  |num m=>
   rw [hc,if_neg (by simp)] at h2
   rw [if_neg (by simp)]
   apply qe []
   repeat' (first|apply And.intro|(intro h;try exact cDd)|exact⟨Tryz.call236⟩|(refine z0 h1 ?_)|exact⟨Tryz.call237⟩|refine cpe h2 ?_|exact cSd|apply qd []|refine exr ?_|refine qg ?_)
  |at' a m=>
   rw [hc,if_neg (by simp)] at h2
   rw [if_neg (by simp)]
   apply qe []
   repeat' (first|apply And.intro|(intro h;try exact cDd)|exact⟨Tryz.call236⟩|(refine z0 h1 ?_)|exact⟨Tryz.call237⟩|refine cpe h2 ?_|exact cSd|apply qd []|refine exr ?_|refine qg ?_)
theorem zao (n:Nat) (l:qp) (id:Int) (hB:LB n l):jo E 201 [.bx 0 0,.i id] 2 (hpF (lstH 1 l)) ⟨.a (errA (delF l id).1),je (lstH 1 l),lstH 2 (delF l id).2++j6 (lstH 1 l),3⟩:=by
 refine vj [.bx 0 0,.i id] (lstH 1 l) 2 (.a (errA (delF l id).1)) (lstH 2 (delF l id).2) 3 Tryz.func201 rfl rfl rfl rfl fun S F ρ=>?_
 have hle:=hB.len
 have hsm:=hB.small
 have h4:=hB.mn0
 have h5:=hB.mn1
 have h1:=qo1 l id (by omega)
 unfold delF
 rcases qgv l id with h | ⟨i,e,h,he,hid,hid1⟩
 ·rw [h] at h1 ⊢
  rw [if_pos (by decide)]
  apply qe []
  repeat' (first|apply And.intro|(intro h;try exact cDd)|exact⟨Tryz.call236⟩|(refine z0 h1 ?_)|exact cSd|apply qd []|refine exr ?_|refine qg ?_)
 ·rw [h] at h1 ⊢
  rw [if_neg (by omega)]
  have hil:=lt_of_getElem? he
  have h2:=qlo (f:=238) (E:=E) (xs:=l.ents.map entA) [Iv i,Iv ((i:Int)+1)] rfl (fun st c hc=>za8 l.ents i hil (by omega) st c hc)
  unfold delL
  rw [Int.toNat_natCast]
  apply qe []
  repeat' (first|apply And.intro|(intro h;try exact cDd)|exact⟨Tryz.call236⟩|(refine z0 h1 ?_)|exact⟨Tryz.call238⟩|(refine z0 h2 ?_)|exact cSd|apply qd []|refine exr ?_|refine qg ?_)
theorem zaq (n:Nat) (l:qp) (id:Int) (fs:List Fld) (hB:LB n l) (hK:KeyB fs) (hl:fs.length<1000000):jo E 202 [.bx 0 0,.i id,.a (zr fs)] 2 (hpF (lstH 1 l)) ⟨.tu [.i (insF l id fs).1,.a (errA (insF l id fs).2.1)],je (lstH 1 l),lstH 2 (insF l id fs).2.2++j6 (lstH 1 l),3⟩:=by
 refine vj [.bx 0 0,.i id,.a (zr fs)] (lstH 1 l) 2 (.tu [.i (insF l id fs).1,.a (errA (insF l id fs).2.1)]) (lstH 2 (insF l id fs).2.2) 3 Tryz.func202 rfl rfl rfl rfl fun S F ρ=>?_
 have hle:=hB.len
 have hsm:=hB.small
 have h4:=hB.mn0
 have h5:=hB.mn1
 have h6:=hB.nx0
 have h7:=hB.nx1
 have h1:=qo1 l id (by omega)
 have h2:=fun st=>qx1 fs st hK hl
 unfold insF
 rcases qgv l id with h | ⟨i,e,h,he,hid,hid1⟩
 ·rw [h] at h1 ⊢
  by_cases h0:id=0
  ·rw [if_neg (fun q=>q.2 h0)]
   rw [show ((-1:Int)+1).toNat=0 from rfl]
   unfold wb at h2 ⊢
   cases hc:zl fs with
   |no=>
    rw [hc,if_pos rfl] at h2
    rw [if_pos rfl,if_pos rfl]
    by_cases hm:400≤l.many
    ·rw [if_pos hm]
     apply qe []
     repeat' (first|apply And.intro|(intro h;try exact cDd)|exact⟨Tryz.call236⟩|(refine z0 h1 ?_)|exact⟨Tryz.call237⟩|refine cpe h2 ?_|exact cSd|apply qd []|refine exr ?_|refine qg ?_)
    ·rw [if_neg hm]
     have h3:=qlo (f:=239) (E:=E) (xs:=l.ents.map entA) [Iv ((0:Nat):Int),.sl 4 [entA ⟨⟨3,js fs,fs⟩,l.next⟩] none] rfl (fun st c hc=>q3j l.ents ⟨⟨3,js fs,fs⟩,l.next⟩ (0) (by omega) (by omega) st c hc)
     unfold insL
     apply qe []
     repeat' (first|apply And.intro|(intro h;try exact cDd)|exact⟨Tryz.call236⟩|(refine z0 h1 ?_)|exact⟨Tryz.call237⟩|refine cpe h2 ?_|exact⟨Tryz.call239⟩|(refine z0 h3 ?_)|exact cSd|apply qd []|refine exr ?_|refine qg ?_)
   |num m=>
    rw [hc,if_neg (by simp)] at h2
    rw [if_neg (by simp)]
    apply qe []
    repeat' (first|apply And.intro|(intro h;try exact cDd)|exact⟨Tryz.call236⟩|(refine z0 h1 ?_)|exact⟨Tryz.call237⟩|refine cpe h2 ?_|exact cSd|apply qd []|refine exr ?_|refine qg ?_)
   |at' a m=>
    rw [hc,if_neg (by simp)] at h2
    rw [if_neg (by simp)]
    apply qe []
    repeat' (first|apply And.intro|(intro h;try exact cDd)|exact⟨Tryz.call236⟩|(refine z0 h1 ?_)|exact⟨Tryz.call237⟩|refine cpe h2 ?_|exact cSd|apply qd []|refine exr ?_|refine qg ?_)
  ·rw [if_pos ⟨by decide,h0⟩]
   apply qe []
   repeat' (first|apply And.intro|(intro h;try exact cDd)|exact⟨Tryz.call236⟩|(refine z0 h1 ?_)|exact cSd|apply qd []|refine exr ?_|refine qg ?_)
 ·rw [h] at h1 ⊢
  have hil:=lt_of_getElem? he
  rw [if_neg (fun q=>absurd q.1 (by omega))]
  rw [show ((i:Int)+1).toNat=i+1 from rfl]
  unfold wb at h2 ⊢
  cases hc:zl fs with
  |no=>
   rw [hc,if_pos rfl] at h2
   rw [if_pos rfl,if_pos rfl]
   by_cases hm:400≤l.many
   ·rw [if_pos hm]
    apply qe []
    repeat' (first|apply And.intro|(intro h;try exact cDd)|exact⟨Tryz.call236⟩|(refine z0 h1 ?_)|exact⟨Tryz.call237⟩|refine cpe h2 ?_|exact cSd|apply qd []|refine exr ?_|refine qg ?_)
   ·rw [if_neg hm]
    have h3:=qlo (f:=239) (E:=E) (xs:=l.ents.map entA) [Iv ((i+1:Nat):Int),.sl 4 [entA ⟨⟨3,js fs,fs⟩,l.next⟩] none] rfl (fun st c hc=>q3j l.ents ⟨⟨3,js fs,fs⟩,l.next⟩ (i+1) (by omega) (by omega) st c hc)
    unfold insL
    apply qe []
    repeat' (first|apply And.intro|(intro h;try exact cDd)|exact⟨Tryz.call236⟩|(refine z0 h1 ?_)|exact⟨Tryz.call237⟩|refine cpe h2 ?_|exact⟨Tryz.call239⟩|(refine z0 h3 ?_)|exact cSd|apply qd []|refine exr ?_|refine qg ?_)
  |num m=>
   rw [hc,if_neg (by simp)] at h2
   rw [if_neg (by simp)]
   apply qe []
   repeat' (first|apply And.intro|(intro h;try exact cDd)|exact⟨Tryz.call236⟩|(refine z0 h1 ?_)|exact⟨Tryz.call237⟩|refine cpe h2 ?_|exact cSd|apply qd []|refine exr ?_|refine qg ?_)
  |at' a m=>
   rw [hc,if_neg (by simp)] at h2
   rw [if_neg (by simp)]
   apply qe []
   repeat' (first|apply And.intro|(intro h;try exact cDd)|exact⟨Tryz.call236⟩|(refine z0 h1 ?_)|exact⟨Tryz.call237⟩|refine cpe h2 ?_|exact cSd|apply qd []|refine exr ?_|refine qg ?_)
def ke:Nat→List qr→qp→List Int→ErrV×qp×List Int
 | _,[],l,ids=>(.no,l,ids)
 |k,x::r,l,ids=>if (oneF l x).2.1 = .no then ke (k+1) r (oneF l x).2.2 (if 0<(oneF l x).1 then ids++[(oneF l x).1] else ids) else (.at' k (oneF l x).2.1.code,l,ids)
def doF (l:qp) (b:List qr):ErrV×qp×List Int:=if eErr b = .no then ke 0 b l [] else (eErr b,l,[])
def doA (r:ErrV×qp×List Int):AV:=match r.1 with
 | .no=>.tu [ki r.2.1,qdf r.2.2,errA .no]
 |e=>.tu [.v (.pointer none),qdf [],errA e]
theorem q4m (r:ErrV×qp×List Int):Pure (doA r):=by
 unfold doA
 split
 ·exact qu3 (qnx _) (qco _) (kg _)
 ·exact qu3 (q8 _) (qco _) (kg _)
theorem qq6 {l:qp} {x:qr} (h:(oneF l x).2.1≠.no):(oneF l x).2.1.code≠0:=by
 have key:∀ fs:List Fld,zl fs≠.no→(zl fs).code≠0:=fun fs h h'=>h ((qiz fs).1 h')
 unfold oneF at h ⊢
 split
 ·rename_i h1
  rw [if_pos h1] at h
  unfold v8 at h ⊢
  split
  ·exact (by decide:(ErrV.num 7).code≠0)
  ·rename_i h2
   rw [if_neg h2] at h
   split
   ·rename_i h3
    rw [if_pos h3] at h
    exact absurd rfl h
   ·exact key _ (by assumption)
 ·rename_i h1
  rw [if_neg h1] at h
  split
  ·rename_i h2
   rw [if_pos h2] at h
   unfold delF at h ⊢
   split
   ·exact (by decide:(ErrV.num 7).code≠0)
   ·rename_i h3
    rw [if_neg h3] at h
    exact absurd rfl h
  ·rename_i h2
   rw [if_neg h2] at h
   unfold insF at h ⊢
   split
   ·exact (by decide:(ErrV.num 7).code≠0)
   ·rename_i h3
    rw [if_neg h3] at h
    split
    ·rename_i h4
     rw [if_pos h4] at h
     split
     ·exact (by decide:(ErrV.num 11).code≠0)
     ·rename_i h5
      rw [if_neg h5] at h
      exact absurd rfl h
    ·exact key _ (by assumption)
theorem zag (n:Nat) (l:qp) (x:qr) (hB:LB n l) (hK:KeyB x.fields) (hl:x.fields.length<1000000):jo E 157 [.bx 0 0,.a (x2 x)] 2 (hpF (lstH 1 l)) ⟨.tu [.i (oneF l x).1,.a (errA (oneF l x).2.1)],je (lstH 1 l),lstH 2 (oneF l x).2.2++j6 (lstH 1 l),3⟩:=by
 refine vj [.bx 0 0,.a (x2 x)] (lstH 1 l) 2 (.tu [.i (oneF l x).1,.a (errA (oneF l x).2.1)]) (lstH 2 (oneF l x).2.2) 3 Tryz.func157 rfl rfl rfl rfl fun S F ρ=>?_
 unfold oneF
 by_cases h1:x.kind=1
 ·rw [if_pos h1]
  have hc:=q8o n l x.id x.fields hB hK hl
  generalize v8 l x.id x.fields=r at hc
  apply qe []
  repeat' (first|apply And.intro|(intro h;try exact cDd)|exact⟨Tryz.call200⟩|(refine z0 hc ?_)|exact cSd|apply qd []|refine exr ?_|refine qg ?_)
 ·rw [if_neg h1]
  by_cases h2:x.kind=2
  ·rw [if_pos h2]
   have hc:=zao n l x.id hB
   generalize delF l x.id=r at hc
   apply qe []
   repeat' (first|apply And.intro|(intro h;try exact cDd)|exact⟨Tryz.call201⟩|(refine z0 hc ?_)|exact cSd|apply qd []|refine exr ?_|refine qg ?_)
  ·rw [if_neg h2]
   have hc:=zaq n l x.id x.fields hB hK hl
   generalize insF l x.id x.fields=r at hc
   apply qe []
   repeat' (first|apply And.intro|(intro h;try exact cDd)|exact⟨Tryz.call202⟩|(refine z0 hc ?_)|exact cSd|apply qd []|refine exr ?_|refine qg ?_)
theorem zbm (n:Nat) (l:qp) (b:List qr) (st:List AObj) (hB:LB n l) (hn:n+40<900000) (hE:∀ x∈b,EdB x) (hl:b.length<1000000):qn E 101 [ki l,yr b] st fun r st'=>r=doA (doF l b)∧st'=st:=by
 refine qh3 [.a (ki l),.a (yr b)] (q4m _) Tryz.func101 rfl rfl (fun _=>rfl) rfl fun S0=>?_
 have hck:=fun st=>q4u b st _ rfl hE (by omega)
 unfold doF
 cases he:eErr b with
 |num m=>
  rw [he] at hck
  rw [if_neg (by simp)]
  apply qe []
  repeat' (first|apply And.intro|(intro h;try exact cDd)|exact⟨Tryz.call69⟩|refine cpe hck ?_|exact cSd|apply qd []|refine exr ?_|refine qg ?_)
 |at' a m=>
  rw [he] at hck
  rw [if_neg (by simp)]
  apply qe []
  repeat' (first|apply And.intro|(intro h;try exact cDd)|exact⟨Tryz.call69⟩|refine cpe hck ?_|exact cSd|apply qd []|refine exr ?_|refine qg ?_)
 |no=>
  rw [he] at hck
  rw [if_pos rfl]
  obtain⟨hb1,hb40,hg⟩:=qg2 he
  have hcp:=q8h l (by have:=hB.len;omega)
  apply qe []
  repeat' (first|apply And.intro|(intro h;try exact cDd)|exact⟨Tryz.call69⟩|refine cpe hck ?_|exact⟨Tryz.call156⟩|(refine z0 hcp ?_)|exact cSd|apply qd []|refine exr ?_|refine qg ?_)
  refine vv (X:=Nat×qp×List Int) (fun (k,q,ids)=>⟨[(8,.bx 0 0),(9,.tp 2),(21,.a (yr b)),(22,.i b.length),(23,.i k)],[(0,some (.cells 110 [.tp 1,.i q.next,.i q.many])),(1,some (.own 4 114 (q.ents.map entA))),(2,some (.tip 1 3 (ids.map fun x=>Iv x)))],3⟩)
   (fun (k,q,ids)=>k≤b.length∧LB (n+k) q∧ids.length≤k∧ke k (b.drop k) q ids=ke 0 b l []) (fun (k,q,ids)=>b.length - k) (0,l,[]) ⟨by omega,hB,by simp,rfl⟩ ?_ ?_
  ·skip
   repeat' (first|apply And.intro|(intro h;try exact cDd)|exact cSd|apply qd []|refine exr ?_|refine qg ?_)
   all_goals (simp;done)
  ·rintro⟨k,q,ids⟩ ⟨hk,hq,hil,hrun⟩
   by_cases hkn:k<b.length
   ·have hx:b[k]? = some b[k]:=List.getElem?_eq_getElem hkn
    have hxm:(b.map x2)[k]? = some (x2 b[k]):=by rw [List.getElem?_map,hx];rfl
    have hxE:=hE b[k] (List.getElem_mem hkn)
    have hxf:=(qg4 (hg b[k] (List.getElem_mem hkn))).1
    rw [List.drop_eq_getElem_cons hkn,ke] at hrun
    have hidl:(ids.map fun x=>Iv x).length=ids.length:=by simp
    generalize b[k]=x at hx hxm hxE hxf hrun
    have hon:=zag (n+k) q x hq hxE.keys (by omega)
    have hlb:=qpg hq (by omega) x
    have hcd:=fun h=>qq6 (l:=q) (x:=x) h
    generalize oneF q x=o at hon hlb hcd hrun
    obtain⟨id,e,q'⟩:=o
    dsimp only at hon hlb hcd hrun
    cases e with
    |no=>
     rw [if_pos rfl] at hrun
     by_cases h0:0<id
     ·rw [if_pos h0] at hrun
      apply qe []
      repeat' (first|apply And.intro|(intro h;try exact cDd)|(refine Exists.intro (k) ⟨by omega,_,hxm,?_⟩)|exact⟨Tryz.call157⟩|(refine z0 hon ?_)|(refine Exists.intro (k+1,q',ids++[id]) ⟨⟨by omega,hlb,by simp;omega,hrun⟩,by simp only;omega,?_⟩)|exact cSd|apply qd []|refine exr ?_|refine qg ?_)
      all_goals first|(simp;done)|(simp;omega)
     ·rw [if_neg h0] at hrun
      apply qe []
      repeat' (first|apply And.intro|(intro h;try exact cDd)|(refine Exists.intro (k) ⟨by omega,_,hxm,?_⟩)|exact⟨Tryz.call157⟩|(refine z0 hon ?_)|(refine Exists.intro (k+1,q',ids) ⟨⟨by omega,hlb,by first|omega|(simp only;omega),hrun⟩,by simp only;omega,?_⟩)|exact cSd|apply qd []|refine exr ?_|refine qg ?_)
      all_goals first|(simp;done)|(simp;omega)
    |num m=>
     rw [if_neg (by simp)] at hrun
     rw [← hrun]
     have hft:=fun st=>qlq k (.num m) st (hcd (by simp))
     apply qe []
     repeat' (first|apply And.intro|(intro h;try exact cDd)|(refine Exists.intro (k) ⟨by omega,_,hxm,?_⟩)|exact⟨Tryz.call157⟩|(refine z0 hon ?_)|exact⟨Tryz.call118⟩|refine cpe hft ?_|exact cSd|apply qd []|refine exr ?_|refine qg ?_)
    |at' a m=>
     rw [if_neg (by simp)] at hrun
     rw [← hrun]
     have hft:=fun st=>qlq k (.at' a m) st (hcd (by simp))
     apply qe []
     repeat' (first|apply And.intro|(intro h;try exact cDd)|(refine Exists.intro (k) ⟨by omega,_,hxm,?_⟩)|exact⟨Tryz.call157⟩|(refine z0 hon ?_)|exact⟨Tryz.call118⟩|refine cpe hft ?_|exact cSd|apply qd []|refine exr ?_|refine qg ?_)
   ·have hkn:k=b.length:=by omega
    subst hkn
    rw [List.drop_length,ke] at hrun
    rw [← hrun]
    apply qe []
    repeat' (first|apply And.intro|(intro h;try exact cDd)|exact cSd|apply qd []|refine exr ?_|refine qg ?_)
structure RunV where
 l:qp
 given:List (List Int)
 touched:List Int
def zbc (b:List qr):List Int:=(b.filter fun x=>decide (x.kind≠3)).map fun x=>x.id
def zbv (r:RunV) (b:List qr):RunV:=⟨(doF r.l b).2.1,r.given++[(doF r.l b).2.2],r.touched++zbc b⟩
def qu2:List (List qr)→RunV→ErrV×RunV
 | [],r=>(.no,r)
 |b::q,r=>if (doF r.l b).1 = .no then qu2 q (zbv r b) else (.at' r.given.length 10,r)
def zbq (base:qc) (bs:List (List qr)):ErrV×RunV:=if zx base = .no then qu2 bs ⟨ofF (itsE base),[],[]⟩ else (zx base,⟨ofF [],[],[]⟩)
theorem qkc {n m:Nat} {l:qp} (h:LB n l) (hm:n≤m) (hs:m<900000):LB m l:=by
 have h1:=h.len;have h2:=h.nx0;have h3:=h.nx1;have h4:=h.mn0;have h5:=h.mn1
 exact⟨hs,by omega,h2,by omega,by omega,by omega⟩
theorem qql:∀ (b:List qr) (k n:Nat) (l:qp) (ids:List Int),LB n l→n+b.length<900000→LB (n+b.length) (ke k b l ids).2.1
 | [],k,n,l,ids,h,_=>h
 |x::r,k,n,l,ids,h,hs=>by
  simp only [List.length_cons] at hs ⊢
  unfold ke
  split
  ·have:=qql r (k+1) (n+1) (oneF l x).2.2 (if 0<(oneF l x).1 then ids++[(oneF l x).1] else ids) (qpg h (by omega) x) (by omega)
   rw [show n+(r.length+1)=n+1+r.length by omega]
   exact this
  ·have h1:=h.len;have h2:=h.nx0;have h3:=h.nx1;have h4:=h.mn0;have h5:=h.mn1
   exact⟨by omega,by simp only;omega,h2,by simp only;omega,by simp only;omega,by simp only;omega⟩
theorem q99 {n:Nat} {l:qp} (h:LB n l) (hs:n+40<900000) (b:List qr):LB (n+40) (doF l b).2.1:=by
 unfold doF
 split
 ·rename_i he
  obtain⟨h1,h2,_⟩:=qg2 he
  exact qkc (qql b 0 n l [] h (by omega)) (by omega) hs
 ·exact qkc h (by omega) hs
theorem q2r:∀ (its:List qu) (n:Nat) (l:qp),LB n l→n+its.length<900000→LB (n+its.length) (its.foldl ve l)
 | [],n,l,h,_=>h
 |x::r,n,l,h,hs=>by
  simp only [List.length_cons] at hs ⊢
  rw [List.foldl_cons,show n+(r.length+1)=n+1+r.length by omega]
  refine q2r r (n+1) _ ?_ (by omega)
  have h1:=h.len;have h2:=h.nx0;have h3:=h.nx1;have h4:=h.mn0;have h5:=h.mn1
  unfold ve
  split
  ·exact⟨by omega,by simp;omega,by simp only;omega,by simp only;omega,by simp only;omega,by simp only;omega⟩
  ·exact⟨by omega,by simp;omega,h2,by simp only;omega,by simp only;omega,by simp only;omega⟩
theorem yg (text:qc):LB 300000 (ofF (itsE text)):=by
 have h:=qt8 text
 have:=q2r (itsE text) 0 ⟨[],1,0⟩ ⟨by omega,by simp,by simp,by simp,by simp,by simp⟩ (by omega)
 exact qkc this (by omega) (by omega)
end Go.Proofs.YtejoahlpbckbeaaGreatDoor
