/- Contracts and plain facts that the closing text leans on (part 7). No condition of their own beyond those that each states. -/
import Derived.Test.YtihlchbgjdkmpaaGreatDoorK6
import Derived.Lib.SliceRun
set_option maxRecDepth 100000
set_option linter.unusedVariables false
set_option linter.unusedSimpArgs false
namespace Go.Pl
open Go Go.Proofs Go.Proofs.YtihlchbgjdkmpaaGreatDoor
theorem qss {l b:qa} {n:Int} (h:zt l=(1,b,n)):yv b∧∃ m,l=recF b++m∧n=(recF b).length:=by
 unfold zt at h;split at h
 ·rename_i i3
  split at h
  ·rename_i ho
   generalize hr:past 10 l=r at *;have hl:=qaa i3;rw [hr] at hl;generalize hu:upto 10 l=u at *
   have hop:u=wo (zz u).1 (zz u).2.1∧2≤(zz u).1∧(zz u).1≤50000:=by
    simp only [zz,decide_eq_true_eq] at ho ⊢;obtain⟨o1,o2,o3,o4,o5⟩:=ho;refine⟨?_,o3,qb6 _⟩;obtain⟨t,rfl⟩:=o1;rw [ql5] at *;have:=qf1 rfl (Nat.le_trans (by decide) o3);unfold wo;rw [← this,← qaa o2]
   generalize (zz u).1=n at *;generalize (zz u).2.1=fig at *;obtain⟨rfl,h2,hn⟩:=hop;split at h
   ·unfold qdh at h
    split at h <;> simp at h
   ·rename_i dj
    split at h
    ·rename_i hg
     have d5:(r.take n).length=n:=by simp;omega
     unfold qao at h;rw [d5] at h;split at h
     ·simp at h
     ·split at h
      ·rename_i hc
       obtain⟨⟨m,hm⟩,hs⟩:=hc;simp only [Prod.mk.injEq,true_and] at h;obtain⟨rfl,rfl⟩:=h;refine⟨hg,m,?_,?_⟩
       ·rw [qkh,d5,← hs,hl]
        unfold recL
        conv=>lhs;rw [← List.take_append_drop n r,← hm]
        simp
       ·rw [qpj _ hg,d5]
      ·simp at h
    ·simp at h
  ·simp at h
 ·split at h <;> simp at h
theorem qts (s sub:qa) (i:Nat):Lib.occAt s sub i=true↔sub <+: s.drop i:=by
 unfold Lib.occAt;rw [List.isPrefixOf_iff_prefix]
theorem zfm {a:qa} (r:qa) (h:10∉a):Lib.cut (a++10::10::r) [10,10]=(a,r,true):=by
 have hi:Lib.index (a++10::10::r) [10,10]=(a.length:Int):=by
  refine Lib.index_first (by simp) ?_ fun j hj=>?_
  ·rw [qts,List.drop_left]
   exact⟨r,rfl⟩
  ·cases hb:Lib.occAt (a++10::10::r) [10,10] j with
   |false=>rfl
   |true=>
    obtain⟨t,ht⟩:=(qts _ _ _).1 hb;rw [List.drop_append_of_le_length (by omega)] at ht
    have:a.drop j≠[]:=by
     intro e;have:=congrArg List.length e;simp at this;omega
    obtain⟨c,q,hq⟩:=List.exists_cons_of_ne_nil this;rw [hq] at ht;have i3:c=10:=by simpa using (List.cons.inj ht).1.symm
    exact absurd (List.mem_of_mem_drop (by rw [hq,i3];simp:(10:UInt8)∈a.drop j)) h
 unfold Lib.cut;rw [hi,if_pos (by omega)];simp only [Int.toNat_natCast,List.take_left',List.length_cons,List.length_nil];rw [show a.length+(0+1+1)=(a++[10,10]).length by simp,show a++10::10::r=(a++[10,10])++r by simp,List.drop_left]
theorem zab {l m:qa} (h:(Lib.cut l m).2.2=true):l=(Lib.cut l m).1++m++(Lib.cut l m).2.1:=by
 rcases Lib.index_spec l m with⟨h1,_⟩ | ⟨i,h1,h2,h3,_⟩
 ·unfold Lib.cut at h
  rw [h1,if_neg (by omega)] at h;simp at h
 ·unfold Lib.cut
  rw [h1,if_pos (by omega)];simp only [Int.toNat_natCast];obtain⟨t,ht⟩:=(qts _ _ _).1 h3;have e:l.drop (i+m.length)=t:=by rw [← List.drop_drop,← ht,List.drop_left]
  rw [e,List.append_assoc,ht,List.take_append_drop]
def genL:qa:=[35,37,103,101,110,32]
def xy (n:Int):qa:=genL++Lib.itoa n++[10,10]
def qak (n:Int):Prop:=1≤n∧n≤2147483648
instance (n:Int):Decidable (qak n):=inferInstanceAs (Decidable (_∧_))
def x3 (text:qa):Int×qa:=
 if genL <+: text then
  match numZ (upto 10 (text.drop 6)) with
  |some n=>if qak n∧[10,10] <+: text.drop (6+(upto 10 (text.drop 6)).length) then (n,text.drop (8+(upto 10 (text.drop 6)).length)) else (0,text)
  |none=>(0,text)
 else (0,text)
theorem qk8 (v:Int):(10:UInt8)∉Lib.itoa v:=by
 intro h;by_cases hv:v<0
 ·rw [qib hv] at h
  rcases List.mem_cons.1 h with h|h
  ·simp at h
  ·have:=xa _ _ (Nat.le_refl _) _ h
   simp at this
 ·rw [qic (by omega)] at h
  have:=xa _ _ (Nat.le_refl _) _ h;simp at this
theorem qla (n:Int) (r:qa):xy n++r=genL++(Lib.itoa n++10::10::r):=by simp [xy]
theorem ql2 {n:Int} (h:qak n) (r:qa):x3 (xy n++r)=(n,r):=by
 unfold x3;have hd:(genL++(Lib.itoa n++10::10::r)).drop 6=Lib.itoa n++10::10::r:=by rw [show (6:Nat)=genL.length by rfl,List.drop_left]
 rw [qla,if_pos (List.prefix_append _ _),hd,xj _ (qk8 n),q7w (by have:=h.1;omega) (by have:=h.2;omega)];have e1:(genL++(Lib.itoa n++10::10::r)).drop (6+(Lib.itoa n).length)=10::10::r:=by rw [← List.drop_drop,hd,List.drop_left]
 have e2:(genL++(Lib.itoa n++10::10::r)).drop (8+(Lib.itoa n).length)=r:=by
  rw [show 8+(Lib.itoa n).length=(6+(Lib.itoa n).length)+2 by omega,← List.drop_drop,e1];rfl
 simp only;rw [e1,e2,if_pos ⟨h,r,rfl⟩]
theorem qv0 {text:qa} (h:∀ n r,qak n→text≠xy n++r):x3 text=(0,text):=by
 unfold x3;split
 ·rename_i hp
  obtain⟨t,rfl⟩:=hp;have hd:(genL++t).drop 6=t:=by rw [show (6:Nat)=genL.length by rfl,List.drop_left]
  rw [hd];split
  ·rename_i n hn
   split
   ·rename_i hc
    obtain⟨hg,r,hr⟩:=hc;rw [← List.drop_drop,hd] at hr;obtain⟨he,_⟩:=q7x hn;refine absurd ?_ (h n r hg);rw [qla,← he];congr 1
    conv=>lhs;rw [← List.take_append_drop (upto 10 t).length t,qjm,← hr]
    rfl
   ·rfl
  ·rfl
 ·rfl
theorem qpm (text:qa):(∃ n r,qak n∧text=xy n++r∧x3 text=(n,r))∨((∀ n r,qak n→text≠xy n++r)∧x3 text=(0,text)):=by
 by_cases h:∃ n r,qak n∧text=xy n++r
 ·obtain⟨n,r,hg,rfl⟩:=h
  exact .inl ⟨n,r,hg,rfl,ql2 hg r⟩
 ·have h':∀ n r,qak n→text≠xy n++r:=fun n r hg e=>h ⟨n,r,hg,e⟩
  exact .inr ⟨h',qv0 h'⟩
def vp (n:Int):qa:=if qak n then xy n else []
theorem qj2 (text:qa):text=vp (x3 text).1++(x3 text).2∧((x3 text).1=0∨qak (x3 text).1):=by
 rcases qpm text with⟨n,r,hg,he,ht⟩ | ⟨_,ht⟩
 ·rw [ht]
  simp only;unfold vp;rw [if_pos hg];exact⟨he,.inr hg⟩
 ·rw [ht]
  exact⟨rfl,.inl rfl⟩
theorem qvd {n:Int} (h:qak n):(xy n).length≤28:=by
 have:=qna (v:=n) (by have:=h.1;omega) (by have:=h.2;omega);simp [xy,genL];omega
def begF (l:qa):Bool:=decide (l.head? = some 37∧qs l=5)
def ka (n:Nat) (l:qa):Nat:=if h:l=[] then n else if begF (upto 10 l)=true then n - l.length else ka n (past 10 l)
 termination_by l.length
 decreasing_by exact x6 h
theorem qeu (n:Nat):ka n []=n:=by rw [ka,dif_pos rfl]
theorem qkv {n:Nat} {l:qa} (h:l≠[]) (hb:begF (upto 10 l)=true):ka n l=n - l.length:=by rw [ka,dif_neg h,if_pos hb]
theorem qms {n:Nat} {l:qa} (h:l≠[]) (hb:¬ begF (upto 10 l)=true):ka n l=ka n (past 10 l):=by
 conv=>lhs;rw [ka]
 rw [dif_neg h,if_neg hb]
theorem qmr:∀ (k n:Nat) (l:qa),l.length≤k→l.length≤n→n - l.length≤ka n l∧ka n l≤n
 | 0,n,l,h,hn=>by
  have:l=[]:=List.length_eq_zero_iff.1 (by omega);subst this;rw [qeu]
  simp
 |k+1,n,l,h,hn=>by
  by_cases hl:l=[]
  ·subst hl;rw [qeu];simp
  ·by_cases hb:begF (upto 10 l)=true
   ·rw [qkv hl hb]
    omega
   ·have:=x6 (c:=10) hl
    rw [qms hl hb];have:=qmr k n (past 10 l) (by omega) (by omega);omega
theorem qrn:∀ (k n:Nat) (l x:qa),l.length≤k→(∀ p∈zl l,begF p.1=false∧p.2=true)→ka n (l++x)=ka n x
 | 0,n,l,x,h,_=>by
  have:l=[]:=List.length_eq_zero_iff.1 (by omega);subst this
  rfl
 |k+1,n,l,x,h,hp=>by
  by_cases hl:l=[]
  ·subst hl;rfl
  ·rw [v8 hl] at hp
   obtain⟨h1,h2⟩:=hp _ (List.mem_cons_self ..);have i3:10∈l:=by simpa using h2
   have e:=qaa i3
   have hu:upto 10 (l++x)=upto 10 l∧past 10 (l++x)=past 10 l++x:=by
    have e2:l++x=upto 10 l++10::(past 10 l++x):=by
     conv=>lhs;rw [e]
     simp
    rw [e2,xj _ (qdf 10 l),yi _ (qdf 10 l)];exact⟨rfl,rfl⟩
   rw [qms (by simp [hl]) (by rw [hu.1];simp [h1]),hu.2];exact qrn k n _ x (by have:=x6 (c:=10) hl;omega) fun p np=>hp p (by simp [np])
theorem qhh:∀ (r:List (qa×Bool)) (k:Nat) (prev:Bool) (now:za) (rec:Int) (out:List za),(refL k r prev now rec out).1=none→∀ x∈r,qs x.1≠5∧x.2=true
 | [],_,_,_,_,_,_=>by simp
 |(t,e)::r,k,prev,now,rec,out,h=>by
  rw [refL] at h;split at h
  ·simp at h
  ·rename_i hw
   have hx:qs t≠5∧e=true:=by
    unfold jz at hw;split at hw
    ·simp at hw
    ·rename_i hc
     exact⟨fun h5=>hc (.inl h5),by cases e with|true=>rfl|false=>exact absurd (.inr (.inr rfl)) hc⟩
   have hr:∀ x∈r,qs x.1≠5∧x.2=true:=by
    split at h
    ·exact qhh r _ _ _ _ _ h
    ·split at h
     ·exact qhh r _ _ _ _ _ h
     ·exact qhh r _ _ _ _ _ h
   intro x e7;rcases List.mem_cons.1 e7 with rfl|e7
   ·exact hx
   ·exact hr x e7
theorem q1l {text:qa} (h:(jk text).1=none):∀ x∈zl text,begF x.1=false∧x.2=true:=fun x hx=>by
 rw [← qf3] at h;obtain⟨h1,h2⟩:=qhh _ _ _ _ _ _ h x hx;exact⟨by simp [begF,h1],h2⟩
theorem qix {n:Nat} {fig l:qa} (hf:y0 fig) (h:l <+: wo n fig) (b9:l≠[]):begF l=true:=by
 have i3:10∉l:=qtv h (qda n hf)
 have h58:(58:UInt8)∉l:=qtv h fun h'=>by
  unfold wo at h';rcases List.mem_append.1 h' with h'|h'
  ·revert h';decide
  ·rcases List.mem_append.1 h' with h'|h'
   ·exact qlj n (by decide) h'
   ·rcases List.mem_cons.1 h' with h'|h'
    ·simp at h'
    ·exact qm7 hf (by decide) h'
 obtain⟨c,q,rfl⟩:=List.exists_cons_of_ne_nil b9
 have hc:c=37:=by
  obtain⟨t,ht⟩:=h;unfold wo zu at ht;exact (List.cons.inj ht).1
 subst hc
 have hk:=q1d i3 (fun hb=>by
  have:=hb 37 (by simp);revert this
  decide)
 simp only [begF,List.head?_cons,true_and,decide_eq_true_eq];rw [hk.2];rw [if_neg (by simp),if_neg (by simp [xp]),if_neg (fun h=>h58 h.1)]
theorem q6m {n:Nat} {fig body l:qa} (hf:y0 fig) (h:l <+: recL n fig body) (b9:l≠[]):begF (upto 10 l)=true:=by
 rcases qvs (show l <+: wo n fig++10::(body++qdz n) from h) with h | ⟨r,rfl,hr⟩
 ·rw [qd7 (qtv h (qda n hf))]
  exact qix hf h b9
 ·cases r with
  |nil=>
   rw [List.append_nil,qd7 (qda n hf)]
   exact qix hf (List.prefix_refl _) (by simp [wo,zu])
  |cons c r=>
   have:c=10:=by obtain⟨t,ht⟩:=hr;exact (List.cons.inj ht).1
   subst this;rw [xj _ (qda n hf)];exact qix hf (List.prefix_refl _) (by simp [wo,zu])
theorem zdc {b:qa} (x:qa) (hg:yv b):begF (upto 10 (recF b++x))=true:=by
 rw [qkh];have hx:y0 (sumF b):=qo8 (addP 0 b);unfold recL;rw [List.append_assoc,List.cons_append,xj _ (qda _ hx)];exact qix hx (List.prefix_refl _) (by simp [wo,zu])
structure jp where
 gen:Int
 base:qa
 batches:List (List ql)
 ends : List Int
 tail:qa
def qev:jp:=⟨0,[],[],[],[]⟩
def yc (text:qa):ErrV:=if 60000<text.length then .num 1 else match (jk text).1 with
 |none=>.no
 |some (a,n)=>.at' a n
def recsF:Nat→qa→Int→List (List ql)→List Int→Bool×List (List ql)×List Int×qa
 | 0,l,_,bs,es=>(false,bs,es,l)
 |f+1,l,a,bs,es=>
  if (zt l).1=2 then (false,bs,es,l)
  else if (zt l).1=1 then match decF (zt l).2.1 with
   |some b=>recsF f (l.drop (zt l).2.2.toNat) (a+(zt l).2.2) (bs++[b]) (es++[a+(zt l).2.2])
   |none=>(true,bs,es,l)
  else (true,bs,es,l)
def qbg (text:qa):qa:=(x3 text).2
def atH (text:qa):Nat:=ka (qbg text).length (qbg text)
def qg5 (text:qa):qa:=(qbg text).take (atH text)
def qcn (text:qa):Bool×List (List ql)×List Int×qa:=recsF (text.length+1) ((qbg text).drop (atH text)) (((text.length - (qbg text).length+atH text:Nat)):Int) [] []
def jt (text:qa):ErrV×jp:=
 if 120000<text.length then (.num 1,qev)
 else match yc (qg5 text) with
  | .no=>if (qcn text).1=true then (.at' (qcn text).2.1.length 10,qev) else (.no,⟨(x3 text).1,qg5 text,(qcn text).2.1,(qcn text).2.2.1,(qcn text).2.2.2⟩)
  |e=>(e,qev)
structure qc5 (b:List ql):Prop where
 ok:eErr b = .no
 B:∀ x∈b,EdB x
 len:(encF b).length≤50000
theorem qc5.dec {b:List ql} (h:qc5 b):decF (encF b)=some b:=zdk h.ok h.B h.len
theorem qc5.good {b:List ql} (h:qc5 b):yv (encF b):=q63 h.ok h.B h.len
theorem zau {t:qa} {b:List ql} (h:decF t=some b):qc5 b∧encF b=t:=by
 obtain⟨h1,h2,h3⟩:=zac h;exact⟨⟨h1,zfn h,by rw [h2];exact h3⟩,h2⟩
def recE (b:List ql):qa:=recF (encF b)
def kl (bs:List (List ql)):qa:=bs.flatMap recE
def x8 (a:Int):List (List ql)→List Int
 | []=>[]
 |b::r=>(a+(recE b).length)::x8 (a+(recE b).length) r
theorem ym (b:List ql) (r:List (List ql)):kl (b::r)=recE b++kl r:=rfl
theorem qlw (r:List (List ql)) (b:List ql):kl (r++[b])=kl r++recE b:=by simp [kl]
theorem qr1:∀ (r:List (List ql)) (a:Int) (b:List ql),x8 a (r++[b])=x8 a r++[a+(kl r).length+(recE b).length]
 | [],a,b=>by simp [x8,kl]
 |x::r,a,b=>by
  rw [List.cons_append,x8,x8,qr1 r,ym];simp;omega
theorem qh0:∀ (r:List (List ql)) (a:Int),(x8 a r).length=r.length
 | [],_=>rfl
 |x::r,a=>by rw [x8];simp [qh0 r]
theorem qr0:∀ (r:List (List ql)) (a:Int),r≠[]→(x8 a r).getLast? = some (a+(kl r).length)
 | [],_,h=>absurd rfl h
 | [x],a,_=>by simp [x8,kl]
 |x::y::r,a,_=>by
  have:=qr0 (y::r) (a+(recE x).length) (by simp);rw [x8,List.getLast?_cons];rw [this,ym x];simp;omega
theorem qqk (b:List ql):0<(recE b).length:=by
 unfold recE;rw [qkh];simp [recL,wo,zu]
theorem qzv:∀ (bs:List (List ql)) (f:Nat) (t:qa) (a:Int) (xs:List (List ql)) (es:List Int),(∀ b∈bs,qc5 b)→(zt t).1=2→bs.length<f →
  recsF f (kl bs++t) a xs es=(false,xs++bs,es++x8 a bs,t)
 | [],f+1,t,a,xs,es,_,ht,_=>by
  rw [recsF];simp only [kl,List.flatMap_nil,List.nil_append,x8,List.append_nil]
  rw [if_pos ht]
 |b::r,f+1,t,a,xs,es,h,ht,hf=>by
  have hb:=h b (by simp)
  have bn:zt (kl (b::r)++t)=(1,encF b,((recE b).length:Int)):=by
   rw [ym,List.append_assoc];exact zbs _ hb.good
  have hdr:(kl (b::r)++t).drop (recE b).length=kl r++t:=by
   rw [ym,List.append_assoc,List.drop_left]
  rw [recsF,bn];simp only;rw [if_neg (by decide),if_pos trivial,hb.dec];simp only [Int.toNat_natCast];rw [hdr,qzv r f t _ _ _ (fun x hx=>h x (by simp [hx])) ht (by simp at hf;omega)];simp [x8]
theorem qzu:∀ (f:Nat) (l:qa) (a:Int) (xs xs':List (List ql)) (es es':List Int) (t:qa),l.length<f→recsF f l a xs es=(false,xs',es',t) →
  ∃ bs,l=kl bs++t∧xs'=xs++bs∧es'=es++x8 a bs∧(∀ b∈bs,qc5 b)∧(zt t).1=2
 | 0,l,a,xs,xs',es,es',t,hl,h=>absurd hl (by omega)
 |f+1,l,a,xs,xs',es,es',t,hl,h=>by
  rw [recsF] at h;split at h
  ·rename_i h2
   simp only [Prod.mk.injEq,true_and] at h;obtain⟨rfl,rfl,rfl⟩:=h;exact⟨[],by simp [kl],by simp,by simp [x8],by simp,h2⟩
  ·split at h
   ·rename_i h1
    split at h
    ·rename_i b hd
     obtain⟨hg,he⟩:=zau hd;have bn:zt l=(1,(zt l).2.1,(zt l).2.2):=by rw [← h1]
     obtain⟨_,m,hm,hn⟩:=qss bn;rw [← he] at hm hn;have hm':l=recE b++m:=hm;have mf:(zt l).2.2=((recE b).length:Int):=hn;have pn:=qqk b;have d5:l.length=(recE b).length+m.length:=by rw [hm'];simp
     have hdr:l.drop (recE b).length=m:=by
      conv=>lhs;rw [hm']
      rw [List.drop_left]
     rw [mf,Int.toNat_natCast,hdr] at h;obtain⟨bs,e1,e2,e3,e4,e5⟩:=qzu f m _ _ _ _ _ _ (by omega) h;refine⟨b::bs,?_,by rw [e2];simp,by rw [e3];simp [x8],?_,e5⟩
     ·rw [ym,List.append_assoc,← e1]
      exact hm'
     ·intro x hx
      rcases List.mem_cons.1 hx with rfl|hx
      ·exact hg
      ·exact e4 x hx
    ·simp at h
   ·simp at h
structure vu (text:qa) (b:jp):Prop where
 txt:text=vp b.gen++(b.base++(kl b.batches++b.tail))
 gen:x3 text=(b.gen,b.base++(kl b.batches++b.tail))
 parse:yc b.base = .no
 good:∀ x∈b.batches,qc5 x
 tail:(zt b.tail).1=2
 ends : b.ends = x8 ((vp b.gen).length + b.base.length) b.batches
 len:text.length≤120000
def BegP (x:qa):Prop:=x=[]∨begF (upto 10 x)=true
theorem q6l {t:qa} (h:(zt t).1=2):BegP t:=by
 by_cases h0:t=[]
 ·exact .inl h0
 ·obtain⟨n,fig,body,R,hp,_⟩:=zej h
  obtain⟨_,_,_,_,_,hx⟩:=R;exact .inr (q6m hx hp h0)
theorem qup {bs:List (List ql)} {t:qa} (hg:∀ b∈bs,qc5 b) (h:(zt t).1=2):BegP (kl bs++t):=by
 cases bs with
 |nil=>exact q6l h
 |cons b r=>
  refine .inr ?_;rw [ym,List.append_assoc];exact zdc _ (hg b (by simp)).good
theorem q6k {x:qa} (h:BegP x):x=[]∨x.head? = some 37:=by
 rcases h with h|h
 ·exact .inl h
 ·simp only [begF,decide_eq_true_eq] at h
  cases x with
  |nil=>exact .inl rfl
  |cons c r=>
   refine .inr ?_;have h1:=h.1;unfold upto at h1;by_cases hc:c=10
   ·subst hc;simp at h1
   ·simpa [hc] using h1
theorem qnm {l:qa} (h:yc l = .no):(∀ p∈zl l,begF p.1=false∧p.2=true)∧l.length≤60000:=by
 unfold yc at h;split at h
 ·simp at h
 ·split at h
  ·rename_i hp
   exact⟨q1l hp,by omega⟩
  ·simp at h
theorem q33 {l x:qa} (h:yc l = .no) (hx:BegP x):ka (l++x).length (l++x)=l.length:=by
 rw [qrn _ _ l x (Nat.le_refl _) (qnm h).1];rcases hx with rfl|hx
 ·rw [qeu];simp
 ·by_cases h0:x=[]
  ·subst h0;rw [qeu];simp
  ·rw [qkv h0 hx]
   simp
theorem qti {text:qa} {b:jp} (h:vu text b):jt text=(.no,b):=by
 have hr:qbg text=b.base++(kl b.batches++b.tail):=by unfold qbg;rw [h.gen]
 have ha:atH text=b.base.length:=by
  unfold atH;rw [hr];exact q33 h.parse (qup h.good h.tail)
 have hb:qg5 text=b.base:=by
  unfold qg5;rw [ha,hr,List.take_left]
 have hl:text.length - (qbg text).length=(vp b.gen).length:=by
  rw [hr]
  conv=>lhs;rw [h.txt]
  simp
 have hc:qcn text=(false,b.batches,b.ends,b.tail):=by
  unfold qcn;rw [hl,ha,hr,List.drop_left,qzv b.batches _ b.tail _ _ _ h.good h.tail]
  ·rw [h.ends]
   simp
  ·have:∀ bs:List (List ql),bs.length≤(kl bs).length:=fun bs=>by
    induction bs with
    |nil=>simp
    |cons x r ih=>
     have:=qqk x;rw [ym];simp;omega
   have:=this b.batches;rw [h.txt];simp;omega
 have d5:=h.len;unfold jt;rw [if_neg (by omega),hb,h.parse,hc,h.gen];simp
theorem qkw {text:qa} {b:jp} (h:jt text=(.no,b)):vu text b:=by
 unfold jt at h;split at h
 ·simp at h
 ·rename_i d5
  split at h
  ·rename_i hp
   split at h
   ·simp at h
   ·rename_i hc
    simp only [Prod.mk.injEq,true_and] at h;subst h;have hs:=qj2 text;have d6:atH text≤(qbg text).length:=(qmr _ _ _ (Nat.le_refl _) (Nat.le_refl _)).2
    have lv:(qbg text).length≤text.length:=by
     conv=>rhs;rw [hs.1]
     unfold qbg;simp
    have hhl:text.length - (qbg text).length=(vp (x3 text).1).length:=by
     have:text.length=(vp (x3 text).1).length+(qbg text).length:=by
      conv=>lhs;rw [hs.1]
      unfold qbg;simp
     omega
    have hq:qcn text=(false,(qcn text).2.1,(qcn text).2.2.1,(qcn text).2.2.2):=by
     have:(qcn text).1=false:=by simpa using hc
     rw [← this]
    obtain⟨bs,e1,e2,e3,e4,e5⟩:=qzu _ _ _ _ _ _ _ _ (by simp;omega) (show recsF (text.length+1) _ _ _ _=_ from hq);simp only [List.nil_append] at e2 e3;have gf:(qg5 text).length=atH text:=by unfold qg5;simp;omega
    have hrest:qbg text=qg5 text++(kl bs++(qcn text).2.2.2):=by
     rw [← e1];unfold qg5;rw [List.take_append_drop]
    refine⟨?_,?_,hp,?_,e5,?_,by omega⟩
    ·simp only
     rw [e2,← hrest];exact hs.1
    ·simp only
     rw [e2,← hrest];rfl
    ·simp only
     rw [e2];exact e4
    ·simp only
     rw [e2,e3,gf,hhl];simp
  ·rename_i hp
   simp only [Prod.mk.injEq] at h;exact absurd h.1 hp
def yf (b:jp):qa:=vp b.gen++(b.base++kl b.batches)
def qa4 (b:jp):Int:=match b.ends.getLast? with
 |some e=>e
 |none=>((vp b.gen).length+b.base.length:Nat)
theorem vu.split {text:qa} {b:jp} (h:vu text b):text=yf b++b.tail:=by
 have:=h.txt;unfold yf
 simpa using this
theorem vu.whole {text:qa} {b:jp} (h:vu text b):qa4 b=((yf b).length:Int):=by
 unfold qa4;rw [h.ends];by_cases h0:b.batches=[]
 ·rw [h0]
  simp [x8,yf,h0,kl]
 ·rw [qr0 _ _ h0]
  simp [yf];omega
theorem vu.take {text:qa} {b:jp} (h:vu text b):text.take (qa4 b).toNat=yf b:=by
 rw [h.whole,Int.toNat_natCast]
 conv=>lhs;rw [h.split]
 rw [List.take_left]
theorem q4q {l:qa} (h:l≠[]) (hp:∀ p∈zl l,p.2=true):l.getLast? = some 10:=by
 have:∀ (k:Nat) (l:qa),l.length≤k→l≠[]→(∀ p∈zl l,p.2=true)→l.getLast? = some 10:=by
  intro k
  induction k with
  |zero=>intro l hl h0;exact absurd (List.length_eq_zero_iff.1 (by omega)) h0
  |succ k ih=>
   intro l hl h0 hp;rw [v8 h0] at hp;have i3:10∈l:=by simpa using hp _ (List.mem_cons_self ..)
   have e:=qaa i3;by_cases hq:past 10 l=[]
   ·rw [hq] at e
    rw [e];simp
   ·have:=ih (past 10 l) (by have:=x6 (c:=10) h0;omega) hq fun p np=>hp p (by simp [np])
    rw [e];rw [List.getLast?_append,List.getLast?_cons,this];simp
 exact this _ l (Nat.le_refl _) h hp
theorem zdz {l x:qa} {n:Int} (h:∀ p∈zl l,p.2=true) (hx:x=[]∨x.head? = some 37) (hp:xy n <+: l++x):xy n <+: l:=by
 rcases qvs hp with h1 | ⟨r,h1,hr⟩
 ·exact h1
 ·by_cases hr0:r=[]
  ·rw [h1,hr0,List.append_nil]
   exact List.prefix_refl _
  ·exfalso
   obtain⟨c,q,rfl⟩:=List.exists_cons_of_ne_nil hr0
   have hc:c=37:=by
    obtain⟨t,ht⟩:=hr;rcases hx with rfl|hx
    ·simp at ht
    ·rw [← ht] at hx
     simpa using hx
   subst hc;by_cases hl:l=[]
   ·rw [hl] at h1
    simp [xy,genL] at h1
   ·have o0:=q4q hl h
    obtain⟨q0,hq0⟩:∃ q0,l=q0++[10]:=by
     have:=q04 o0;exact⟨_,this.symm⟩
    have e:genL++Lib.itoa n++10::[10]=q0++10::(37::q):=by
     have:=h1;unfold xy at this;rw [hq0] at this
     simpa using this
    have hu10:10∉genL++Lib.itoa n:=by
     intro h;rcases List.mem_append.1 h with h|h
     ·revert h;decide
     ·exact qk8 n h
    have hA:=xj (c:=10) [10] hu10;have hB:=yi (c:=10) [10] hu10;rw [e] at hA hB;by_cases hq10:10∈q0
    ·have e2:=qaa hq10
     have e3:q0++10::(37::q)=upto 10 q0++10::(past 10 q0++10::(37::q)):=by
      conv=>lhs;rw [e2]
      simp
     rw [e3,yi _ (qdf 10 q0)] at hB;have:=congrArg List.length hB;simp at this;omega
    ·rw [yi _ hq10] at hB
     simp at hB
theorem q5s {l x y:qa} (h:∀ p∈zl l,p.2=true) (hx:x3 (l++x)=(0,l++x)) (hy:y=[]∨y.head? = some 37):x3 (l++y)=(0,l++y):=by
 refine qv0 fun n r hg e=>?_;obtain⟨t,ht⟩:=zdz (n:=n) h hy ⟨r,e.symm⟩;have:x3 (l++x)=(n,t++x):=by rw [← ht,List.append_assoc,ql2 hg]
 rw [hx] at this;have h0:(0:Int)=n:=(Prod.mk.inj this).1;have:=hg.1;omega
theorem vu.gen0 {text:qa} {b:jp} (h:vu text b):b.gen=0∨qak b.gen:=by
 have:=(qj2 text).2;rw [h.gen] at this;exact this
theorem vu.other {text:qa} {b:jp} (h:vu text b) {bs:List (List ql)} {t:qa} (hg:∀ x∈bs,qc5 x) (ht:(zt t).1=2) (d5:(vp b.gen++(b.base++(kl bs++t))).length≤120000) :
  vu (vp b.gen++(b.base++(kl bs++t))) ⟨b.gen,b.base,bs,x8 ((vp b.gen).length+b.base.length) bs,t⟩:=by
 refine⟨rfl,?_,h.parse,hg,ht,rfl,d5⟩;rcases h.gen0 with h0|h0
 ·have hgen:=h.gen
  have htext:=h.txt;have e:vp b.gen=[]:=by unfold vp;rw [if_neg (by rw [h0];decide)]
  rw [e,List.nil_append] at htext ⊢;rw [h0,htext] at hgen;simp only;rw [h0];exact q5s (fun p hp=>((qnm h.parse).1 p hp).2) hgen (q6k (qup hg ht))
 ·have e:vp b.gen=xy b.gen:=by unfold vp;rw [if_pos h0]
  simp only;rw [e,ql2 h0]
theorem zbr:zt []=(2,[],0):=by
 unfold zt qd3;rw [if_neg (by simp),if_pos];rw [if_neg (by decide)];decide
theorem vu.more {text:qa} {b:jp} (h:vu text b) {x:List ql} (hx:qc5 x) (hl:(yf b++recE x).length≤120000):vu (yf b++recE x) { b with batches:=b.batches++[x],ends:=b.ends++[qa4 b+(recE x).length],tail:=[] }:=by
 have e:vp b.gen++(b.base++(kl (b.batches++[x])++[]))=yf b++recE x:=by simp [yf,qlw]
 have:=h.other (bs:=b.batches++[x]) (t:=[]) (fun y hy=>by
  rcases List.mem_append.1 hy with hy|hy
  ·exact h.good y hy
  ·obtain rfl:=List.mem_singleton.1 hy
   exact hx) (by rw [zbr]) (by rw [e];exact hl)
 rw [e,qr1,← h.ends] at this
 have hw:((vp b.gen).length+b.base.length+(kl b.batches).length+(recE x).length:Int)=qa4 b+(recE x).length:=by
  rw [h.whole];simp [yf];omega
 rw [hw] at this;exact this
def appF (text:qa) (x:List ql):ErrV×qa:=
 match (jt text).1 with
 | .no=>match eErr x with
  | .no=>if 50000<(encF x).length then (.num 11,[]) else if 120000<qa4 (jt text).2+(recE x).length then (.num 11,[]) else (.no,text.take (qa4 (jt text).2).toNat++recE x)
  |e=>(e,[])
 |e=>(e,[])
end Go.Pl
namespace Go.Proofs.YtihlchbgjdkmpaaGreatDoor
open Go Go.Av Go.RowKit Go.Proofs Go.Pl
theorem qk6 (n:Int) (st:List AObj) (h:qak n):qn E 94 [Iv n] st fun r st'=>r = .tu [Sv (xy n),.v .nilIface]∧st'=st:=by
 have h1:=h.1;have h2:=h.2;have hl:=qna (v:=n) (by omega) (by omega);have pd:=fun st=>qm9 n st (by omega) (by omega);refine zx [.i n] (kc (qt _) (qt _)) Tryz.func94 rfl rfl (fun _=>rfl) rfl fun S0=>?_;apply qd [];repeat' (first|apply And.intro|(intro h;try exact cDd)|exact⟨Tryz.call54⟩|refine cpe pd ?_|exact cSd|apply qb []|refine exr ?_|refine qi ?_)
 all_goals first|(simp;omega)|(simp [xy,genL];done)
theorem qyl (n:Int) (st:List AObj) (h:¬ qak n):qn E 94 [Iv n] st fun r st'=>r = .tu [Sv [],.ifc 37 (Iv 1)]∧st'=st:=by
 refine zx [.i n] (kc (qt _) (qb7 (qt _))) Tryz.func94 rfl rfl (fun _=>rfl) rfl fun S0=>?_;unfold qak at h;apply qd [];repeat' (first|apply And.intro|(intro h;try exact cDd)|exact cSd|apply qb []|refine exr ?_|refine qi ?_)
theorem q7k (n:Int) (st:List AObj):qn E 52 [Iv n] st fun r st'=>r=Iv ((vp n).length:Nat)∧st'=st:=by
 refine zx [.i n] (qt _) Tryz.func52 rfl rfl (fun _=>rfl) rfl fun S0=>?_;by_cases hg:qak n
 ·have e:vp n=xy n:=by unfold vp;rw [if_pos hg]
  have hln:=fun st=>qk6 n st hg;rw [e];apply qd [];repeat' (first|apply And.intro|(intro h;try exact cDd)|exact⟨Tryz.call94⟩|refine cpe hln ?_|exact cSd|apply qb []|refine exr ?_|refine qi ?_)
 ·have e:vp n=[]:=by unfold vp;rw [if_neg hg]
  have hln:=fun st=>qyl n st hg;rw [e];apply qd [];repeat' (first|apply And.intro|(intro h;try exact cDd)|exact⟨Tryz.call94⟩|refine cpe hln ?_|exact cSd|apply qb []|refine exr ?_|refine qi ?_)
theorem q9d (l:qa) (st:List AObj):qn E 112 [Sv (genL++l),Sv [35,37,103,101,110,32]] st fun r st'=>r=Sv l∧st'=st:=by
 have:=qip (genL++l) [35,37,103,101,110,32] st;rw [qcc (show [35,37,103,101,110,32] <+: genL++l from List.prefix_append genL l)] at this;have e:(genL++l).drop ([35,37,103,101,110,32]:qa).length=l:=by rw [show ([35,37,103,101,110,32]:qa).length=genL.length by rfl,List.drop_left]
 rw [e] at this;exact this
set_option maxHeartbeats 2000000 in
theorem zd0 (text:qa) (st:List AObj) (hl:text.length<1000000):qn E 62 [Sv text] st fun r st'=>r = .tu [Iv (x3 text).1,Sv (x3 text).2]∧st'=st:=by
 refine zb (kc (qt _) (qt _)) (qr Tryz.func62 rfl (Nat.le_of_ble_eq_true rfl) ?_);rcases qpm text with⟨n,r,hg,he,ht⟩ | ⟨sd,ht⟩
 ·rw [ht]
  have hn10:10∉genL++Lib.itoa n:=fun h=>by
   rcases List.mem_append.1 h with h|h
   ·revert h;decide
   ·exact qk8 n h
  have hcut:∀ st,qn E 110 [Sv text,Sv [10,10]] st fun x st'=>x = .tu [Sv (genL++Lib.itoa n),Sv r,Bv true]∧st'=st:=fun st=>by
   have:=qrs text [10,10] st (by omega);rw [he,qla,← List.append_assoc,zfm r hn10] at this;rw [he,qla,← List.append_assoc];exact this
  have hb:=qna (v:=n) (by have:=hg.1;omega) (by have:=hg.2;omega);have tg:genL.length=6:=rfl;have hat:=qkp (v:=n) (by have:=hg.1;omega) (by have:=hg.2;omega);repeat' (first|apply qm|apply qe|apply qf|apply qj|apply qh|(apply zh;exact rfl;exact rfl)|(apply qk;exact Tryz.call110;exact hcut _)|(apply qk;exact Tryz.call112;exact q9d _ _))
  refine qd9 Tryz.call111 ((qmq (Lib.itoa n) _ (by omega)).mono ?_);rintro _ _ ⟨rfl,n',x,rfl,hx⟩;rcases x with _ | ⟨t',y⟩
  ·simp only at hx
   rw [hat] at hx;have e:n=n':=by simpa using hx
   subst e
   show AOps _ _ _ _ _ _ _
   have hs:xy n=(genL++Lib.itoa n)++[10,10]:=rfl;have ml:¬ xy n≠(genL++Lib.itoa n)++[10,10]:=fun h=>h hs;repeat' (first|apply qm|apply qe|apply qf|apply qj|apply qh|(apply zh;exact rfl;exact rfl)|(apply jv;(iterate 3 exact rfl))|(apply jb;exact rfl)|(apply ze;(iterate 4 exact rfl))|(apply qax;exact cRa)|(apply qfj;exact cRa)|(apply qp;exact rfl;apply qf2;exact cRa)|(apply qp;exact rfl;apply pk_f;exact cRa)|(apply qc;exact rfl;apply xh;exact cAo)|(apply vh;exact rfl;exact rfl;exact cOs)|(apply v7;exact rfl;exact rfl)|apply qx|apply qu|(apply qk;exact Tryz.call94;exact qk6 _ _ hg))
   exact qo rfl (wm rfl) ⟨rfl,_,rfl⟩
  ·exact absurd hat (hx n)
 ·rw [ht]
  have hfst:=qrt text [10,10];have hct:=fun h=>zab (l:=text) (m:=[10,10]) h;have htr:=qd0 (Lib.cut text [10,10]).1 [35,37,103,101,110,32];have rm:=fun st=>qrs text [10,10] st (by omega);generalize Lib.cut text [10,10]=c at hfst hct htr rm;obtain⟨a,b,d⟩:=c;simp only at hfst hct htr rm;repeat' (first|apply qm|apply qe|apply qf|apply qj|apply qh|(apply zh;exact rfl;exact rfl)|(apply qk;exact Tryz.call110;exact rm _)|(apply qk;exact Tryz.call112;exact qip _ _ _))
  refine qd9 Tryz.call111 ((qmq (Lib.trimPrefix a [35,37,103,101,110,32]) _ (by omega)).mono ?_);rintro _ _ ⟨rfl,n,x,rfl,hx⟩
  show AOps _ _ _ _ _ _ _
  have cq:¬ (d=true∧qak n∧xy n=a++[10,10]):=fun ⟨h1,h2,h3⟩=>by
   refine sd n b h2 ?_;rw [h3];exact hct h1
  by_cases hg:qak n
  ·have hll:=qvd hg
   cases d with
   |false=>
    rcases x with _ | ⟨t',y⟩
    all_goals
     repeat' (first|apply qm|apply qe|apply qf|apply qj|apply qh|(apply zh;exact rfl;exact rfl)|(apply jb;exact rfl)|(apply ze;(iterate 4 exact rfl))|(apply qc9;exact cRa)|(apply qbs;exact cRa)|(apply qp;exact rfl;apply qlr;exact cRa)|(apply qp;exact rfl;apply pk_t;exact cRa)|(apply qc;exact rfl;apply cd_t;exact cRa)|apply qu|(apply qk;exact Tryz.call94;exact qk6 _ _ hg))
     exact qo rfl (wm rfl) ⟨rfl,_,rfl⟩
   |true=>
    have b9:xy n≠a++[10,10]:=fun h=>cq ⟨rfl,hg,h⟩;rcases x with _ | ⟨t',y⟩
    all_goals
     repeat' (first|apply qm|apply qe|apply qf|apply qj|apply qh|(apply zh;exact rfl;exact rfl)|(apply jv;(iterate 3 exact rfl))|(apply jb;exact rfl)|(apply ze;(iterate 4 exact rfl))|(apply qax;exact cRa)|(apply qfj;exact cRa)|(apply qbs;exact cRa)|(apply qp;exact rfl;apply qf2;exact cRa)|(apply qp;exact rfl;apply pk_t;exact cRa)|(apply qp;exact rfl;apply pk_f;exact cRa)|(apply qc;exact rfl;apply wg;exact cAo)|(apply qc;exact rfl;apply cd_t;exact cRa)|(apply vh;exact rfl;exact rfl;exact cOs)|(apply wr;exact rfl;exact rfl)|(apply v7;exact rfl;exact rfl)|apply qu|(apply qk;exact Tryz.call94;exact qk6 _ _ hg))
     exact qo rfl (wm rfl) ⟨rfl,_,rfl⟩
  ·cases d
   all_goals
    rcases x with _ | ⟨t',y⟩
    all_goals
     repeat' (first|apply qm|apply qe|apply qf|apply qj|apply qh|(apply zh;exact rfl;exact rfl)|(apply jb;exact rfl)|(apply ze;(iterate 4 exact rfl))|(apply qax;exact cRa)|(apply qc9;exact cRa)|(apply qfj;exact cRa)|(apply qbs;exact cRa)|(apply qp;exact rfl;apply qlr;exact cRa)|(apply qp;exact rfl;apply qf2;exact cRa)|(apply qp;exact rfl;apply pk_t;exact cRa)|(apply qp;exact rfl;apply pk_f;exact cRa)|(apply qc;exact rfl;apply cd_t;exact cRa)|(apply wr;exact rfl;exact rfl)|(apply v7;exact rfl;exact rfl)|apply qu|(apply qk;exact Tryz.call94;exact qyl _ _ hg))
     exact qo rfl (wm rfl) ⟨rfl,_,rfl⟩
def zcs (L:List LnV) (i:Nat) (x:LnV):List qa:=x.text::vj ((L.drop (i+1)).map q44)
theorem qyz:∀ (r:List (qa×Bool)),(vj r).length≤r.length
 | []=>by simp [vj]
 |(t,e)::r=>by
  have:=qyz r;rw [vj];split <;> simp <;> omega
theorem qy0:∀ {r:List (qa×Bool)} {n:Nat},(∀ p∈r,p.1.length≤n)→∀ s∈vj r,s.length≤n
 | [],_,_,s,hs=>by simp [vj] at hs
 |(t,e)::r,n,h,s,hs=>by
  rw [vj] at hs;split at hs
  ·rcases List.mem_cons.1 hs with rfl|hs
   ·exact h (s,e) (by simp)
   ·exact qy0 (fun p hp=>h p (by simp [hp])) s hs
  ·simp at hs
structure LnsB (L:List LnV):Prop where
 len:L.length<100000
 val:∀ x∈L,x.text.length<100000
theorem LnsB.said {L:List LnV} (h:LnsB L) {i:Nat} {x:LnV} (hx:L[i]? = some x):LsB (zcs L i x):=by
 have h1:=qyz ((L.drop (i+1)).map q44);have h2:=h.len;have h3:=h.val x (List.mem_of_getElem? hx);refine⟨?_,fun s hs=>?_⟩
 ·unfold zcs
  simp at h1 ⊢;omega
 ·rcases List.mem_cons.1 hs with rfl|hs
  ·omega
  ·have:=qy0 (n:=100000) (fun p hp=>by
    obtain⟨y,hy,rfl⟩:=List.mem_map.1 hp;have:=h.val y (List.mem_of_mem_drop hy);simp only [q44]
    omega) s hs
   omega
end Go.Proofs.YtihlchbgjdkmpaaGreatDoor
namespace Go.Pl
open Go Go.Proofs Go.Proofs.YtihlchbgjdkmpaaGreatDoor
theorem q5a (l:qa):(zt l).1=1∨(zt l).1=2∨(zt l).1=3:=by
 unfold zt;split
 ·split
  ·split
   ·unfold qdh
    split <;> simp
   ·split
    ·unfold qao
     split
     ·simp
     ·split <;> simp
    ·simp
  ·simp
 ·split <;> simp
theorem q8j {l:qa} (h1:(zt l).1=1):∃ k:Nat,(zt l).2.2=(k:Int)∧0<k∧k≤l.length:=by
 obtain⟨_,m,hm,hn⟩:=qss (show zt l=(1,(zt l).2.1,(zt l).2.2) by rw [← h1]);refine⟨_,hn,?_,?_⟩
 ·rw [qkh]
  simp [recL,wo,zu]
 ·have:=congrArg List.length hm
  rw [List.length_append] at this;omega
theorem qwm {l:qa}:(zt l).2.1.length≤l.length:=by
 have hp:=km 10 l;unfold zt;split
 ·split
  ·split
   ·simp
   ·split
    ·unfold qao
     split
     ·simp
     ·split
      ·simp;omega
      ·simp
    ·simp
  ·simp
 ·split <;> simp
theorem qxq (l:qa):ka l.length l≤l.length:=(qmr _ _ _ (Nat.le_refl _) (Nat.le_refl _)).2
theorem q5g {f:Nat} {l:qa} {a:Int} {bs:List (List ql)} {es:List Int} (h:(zt l).1=2):recsF (f+1) l a bs es=(false,bs,es,l):=by
 rw [recsF,if_pos h]
theorem q8n {f:Nat} {l:qa} {a:Int} {bs:List (List ql)} {es:List Int} (h:(zt l).1=3):recsF (f+1) l a bs es=(true,bs,es,l):=by
 rw [recsF,if_neg (by rw [h];decide),if_neg (by rw [h];decide)]
theorem q8m {f:Nat} {l:qa} {a:Int} {bs:List (List ql)} {es:List Int} (h:(zt l).1=1) (hd:decF (zt l).2.1=none):recsF (f+1) l a bs es=(true,bs,es,l):=by
 rw [recsF,if_neg (by rw [h];decide),if_pos h,hd]
theorem q5f {f k:Nat} {l:qa} {a:Int} {bs:List (List ql)} {es:List Int} {b:List ql} (h:(zt l).1=1) (hd:decF (zt l).2.1=some b) (hk:(zt l).2.2=(k:Int)):recsF (f+1) l a bs es=recsF f (l.drop k) (a+k) (bs++[b]) (es++[a+k]):=by
 rw [recsF,if_neg (by rw [h];decide),if_pos h,hd,hk];rfl
end Go.Pl
namespace Go.Proofs.YtihlchbgjdkmpaaGreatDoor
open Go Go.Av Go.RowKit Go.Proofs Go.Pl
@[reducible] def yw (es : List Int) : AV := .sl 1 (es.map fun x => Iv x) none
@[reducible] def qbx (bs : List (List ql)) : AV := .sl 1 (bs.map zo) none
@[reducible] def qaj (b : jp) : AV := .ag [Iv b.gen, Sv b.base, qbx b.batches, yw b.ends, Sv b.tail]
theorem zff (l:qa) (b:Bool) (st:List AObj) (hl:l.length<4294967281) (h:begF l=b):qn E 114 [Sv l] st fun r st'=>r=Bv b∧st'=st:=by
 subst h;exact q92 l st hl
theorem q91 (text:qa) (st:List AObj) (hl:text.length<1000000):qn E 63 [Sv text] st fun r st'=>r=Iv ((ka text.length text:Nat):Int)∧st'=st:=by
 refine zx [.s text] (qt _) Tryz.func63 rfl rfl (fun _=>rfl) rfl fun S0=>?_;apply qd [];repeat' (first|apply And.intro|(intro h;try exact cDd)|exact⟨Tryz.call113⟩|(refine Exists.intro _ ⟨qlz _,?_⟩)|exact cSd|apply qb []|refine exr ?_|refine qi ?_)
 refine qfo (X:=Int) text 1 2 [0,1] (fun r=>⟨[(0,.s text),(2,.bx 0 0),(5,.fn (.func 154) [] [.bx 1 0])],[(0,some (.cells 3 [.i r])),(1,some (.cells 9 [.s text]))],2⟩) _
  (fun k rest r=>r=0∧rest.length≤text.length∧ka text.length text=ka text.length rest) (fun c r=>c = .ret∧r=((ka text.length text:Nat):Int)) 0 ⟨rfl,by omega,rfl⟩ ?_ id (by omega) (fun _=>rfl) rfl (fun _=>rfl) (fun _=>rfl) rfl ?_ ?_ ?_
 ·skip
  repeat' (first|apply And.intro|(intro h;try exact cDd)|exact cSd|apply qb []|refine exr ?_|refine qi ?_)
 ·rintro k rest r ⟨rfl,lv,hbeg⟩ b9 d6
  have hu:=vb 10 rest;have fc:=km 10 rest;have hbg:=fun st=>zff (upto 10 rest) _ st (by omega) rfl;unfold qlb;by_cases hb:begF (upto 10 rest)=true
  ·rw [hb] at hbg
   have hv:((text.length:Int) - rest.length)=((ka text.length text:Nat):Int):=by
    rw [hbeg,qkv b9 hb];omega
   refine RA.mk fun S F ρ rd=>?_;apply qd [];repeat' (first|apply And.intro|(intro h;try exact cDd)|(refine RB.mk fun S rd=>?_;apply qd [])|exact⟨Tryz.call114⟩|refine cpe hbg ?_|(refine Exists.intro _ ⟨⟨rfl,hv⟩,?_⟩)|exact cSd|apply qb []|refine exr ?_|refine qi ?_)
  ·have cx:begF (upto 10 rest)=false:=by simpa using hb
   rw [cx] at hbg;refine RA.mk fun S F ρ rd=>?_;apply qd [];repeat' (first|apply And.intro|(intro h;try exact cDd)|(refine RB.mk fun S rd=>?_;apply qd [])|exact⟨Tryz.call114⟩|refine cpe hbg ?_|(refine Exists.intro 0 ⟨⟨rfl,by omega,by rw [hbeg,qms b9 (by rw [cx];decide)]⟩,?_⟩)|exact cSd|apply qb []|refine exr ?_|refine qi ?_)
 ·rintro k r ⟨rfl,lv,hbeg⟩
  rw [qeu] at hbeg;rw [hbeg];repeat' (first|apply And.intro|(intro h;try exact cDd)|exact cSd|apply qb []|refine exr ?_|refine qi ?_)
 ·rintro c r ⟨rfl,rfl⟩
  repeat' (first|apply And.intro|(intro h;try exact cDd)|exact cSd|apply qb []|refine exr ?_|refine qi ?_)
theorem qij {a b c:AV} (h1:Pure a) (h2:Pure b) (h3:Pure c):Pure (.tu [a,b,c]):=qeh fun z hz=>by
 simp only [List.mem_cons,List.not_mem_nil,or_false] at hz;rcases hz with rfl|rfl|rfl
 ·exact h1
 ·exact h2
 ·exact h3
theorem qx4 (b:List ql):qfs (zo b):=fun y hy=>by
 simp only [AV.cells,List.mem_cons,List.not_mem_nil,or_false] at hy;subst hy;exact qds _
theorem qwf (bs:List (List ql)):Pure (qbx bs):=qar fun x hx=>by
 obtain⟨b,_,rfl⟩:=List.mem_map.1 hx;exact qx4 b
theorem qdb (es:List Int):Pure (yw es):=qar fun x hx=>by
 obtain⟨b,_,rfl⟩:=List.mem_map.1 hx;intro y hy;simp only [AV.cells,List.mem_cons,List.not_mem_nil,or_false] at hy;subst hy;exact qt _
theorem qg6 (b:jp):Pure (qaj b):=qoh fun x hx=>by
 simp only [List.mem_cons,List.not_mem_nil,or_false] at hx;rcases hx with rfl|rfl|rfl|rfl|rfl
 ·exact qt _
 ·exact qt _
 ·exact qwf _
 ·exact qdb _
 ·exact qt _
def qmu (x:ErrV×jp):AV:=.tu [qaj x.2,errA x.1]
theorem q00 (x:ErrV×jp):Pure (qmu x):=kc (qg6 _) (jx _)
theorem q1q (text:qa) (st:List AObj) (hl:60000<text.length) (h2:text.length<1000000):qn E 64 [Sv text] st fun r st'=>r = .tu [ww [],errA (.num 1)]∧st'=st:=by
 refine zx [.s text] (kc (qfz _) (jx _)) Tryz.func64 rfl rfl (fun _=>rfl) rfl fun S0=>?_;apply qd [];repeat' (first|apply And.intro|(intro h;try exact cDd)|exact cSd|apply qb []|refine exr ?_|refine qi ?_)
def itsE (text:qa):List za:=if 60000<text.length then [] else (jk text).2
theorem qvw (text:qa) (st:List AObj) (hl:text.length<1000000):qn E 64 [Sv text] st fun r st'=>r = .tu [ww (itsE text),errA (yc text)]∧st'=st:=by
 unfold yc itsE;by_cases hb:60000<text.length
 ·rw [if_pos hb,if_pos hb]
  exact q1q text st hb hl
 ·rw [if_neg hb,if_neg hb]
  have:=qqo text st (by omega);unfold qc4 at this;rcases hp:(jk text).1 with _ | ⟨x,y⟩
  ·rw [hp] at this
   exact this
  ·rw [hp] at this
   exact this
theorem qxs (gen:Int) (base text:qa) (a:Nat) (hl:text.length<1000000) (ha:a≤text.length) (r:SV) (t6:List (Nat×Option SR)) (nx1:Nat) (R:Bool×List (List ql)×List Int×qa) (hR:Go.Pl.recsF (text.length+1) (text.drop a) a [] []=R)
  (hok:R.1=false→r = .a (.v .nilIface)∧t6=[(0,some (.cells 26 [.i gen,.s base,.tp 1,.tp 2,.s R.2.2.2])),(1,some (.tip 1 42 (R.2.1.map zo))),(2,some (.tip 1 3 (R.2.2.1.map fun x=>Iv x)))]∧nx1=3)
  (cq:R.1=true→r = .a (errA (.at' R.2.1.length 10))∧t6=[]∧nx1=1):j8 E 65 [.bx 0 0,.s text,.i a] 1 (hpF [(0,some (.cells 26 [.i gen,.s base,.a zj,.a zj,.s []]))]) ⟨r,ju [(0,some (.cells 26 [.i gen,.s base,.a zj,.a zj,.s []]))],t6++kz [(0,some (.cells 26 [.i gen,.s base,.a zj,.a zj,.s []]))],nx1⟩:=by
 refine wh [.bx 0 0,.s text,.i a] [(0,some (.cells 26 [.i gen,.s base,.a zj,.a zj,.s []]))] 1 r t6 nx1 Tryz.func65 rfl rfl rfl ?_ fun S F ρ=>?_
 ·cases h:R.1 with
  |false=>obtain⟨rfl,rfl,rfl⟩:=hok h;rfl
  |true=>obtain⟨rfl,rfl,rfl⟩:=cq h;rfl
 apply qd [];repeat' (first|apply And.intro|(intro h;try exact cDd)|exact cSd|apply qb []|refine exr ?_|refine qi ?_)
 refine w7 (X:=Nat×Nat×List (List ql)×List Int) (fun (k,f,bs,es)=>⟨[(0,.bx 0 0),(1,.s text),(2,.i k)],[(0,some (.cells 26 [.i gen,.s base,.tp 1,.tp 2,.s []])),(1,some (.tip 1 42 (bs.map zo))),(2,some (.tip 1 3 (es.map fun x=>Iv x)))],3⟩)
  (fun (k,f,bs,es)=>k≤text.length∧text.length - k<f∧Go.Pl.recsF f (text.drop k) k bs es=R∧bs.length≤k∧es.length≤k) (fun x=>text.length - x.1) (a,text.length+1,[],[]) ⟨ha,by omega,hR,by simp,by simp⟩ ?_ ?_
 ·skip
  repeat' (first|apply And.intro|(intro h;try exact cDd)|exact cSd|apply qb []|refine exr ?_|refine qi ?_)
 ·rintro⟨k,f,bs,es⟩ ⟨hk,hf,hR,gf,mb⟩
  obtain⟨f,rfl⟩:∃ f',f=f'+1:=⟨f - 1,by omega⟩;have bn:=fun st=>zgd (text.drop k) st (by simp;omega);have hll:(text.drop k).length=text.length - k:=by simp
  have hbd:=qwm (l:=text.drop k);have tb:=fun st=>zad (zt (text.drop k)).2.1 st (by omega);rcases q5a (text.drop k) with h1|h2|h3
  ·rw [h1] at bn
   obtain⟨n',mf,hn0',sc⟩:=q8j h1
   cases fm:decF (zt (text.drop k)).2.1 with
   |none=>
    rw [q8m h1 fm] at hR;rw [fm] at tb;subst hR;obtain⟨rfl,rfl,rfl⟩:=cq rfl;apply qd [];repeat' (first|apply And.intro|(intro h;try exact cDd)|exact⟨Tryz.call117⟩|refine cpe bn ?_|exact⟨Tryz.call118⟩|refine cpe tb ?_|exact cSd|apply qb []|refine exr ?_|refine qi ?_)
    rw [List.length_map]
    rfl
   |some b=>
    rw [q5f h1 fm mf] at hR;rw [fm] at tb;rw [mf] at bn;apply qd [];repeat' (first|apply And.intro|(intro h;try exact cDd)|exact⟨Tryz.call117⟩|refine cpe bn ?_|exact⟨Tryz.call118⟩|refine cpe tb ?_|(refine Exists.intro (k+n',f,bs++[b],es++[((k+n':Nat):Int)]) ⟨?_,by simp only;omega,?_⟩)|exact cSd|apply qb []|refine exr ?_|refine qi ?_)
    all_goals first|(rw [← hR,Int.natCast_add,List.drop_drop];done)|(simp;done)
  ·rw [h2] at bn
   rw [q5g h2] at hR;subst hR;obtain⟨rfl,rfl,rfl⟩:=hok rfl
   cases fm:decF (zt (text.drop k)).2.1 <;> rw [fm] at tb
   all_goals
    apply qd [];repeat' (first|apply And.intro|(intro h;try exact cDd)|exact⟨Tryz.call117⟩|refine cpe bn ?_|exact⟨Tryz.call118⟩|refine cpe tb ?_|exact cSd|apply qb []|refine exr ?_|refine qi ?_)
  ·rw [h3] at bn
   rw [q8n h3] at hR;subst hR;obtain⟨rfl,rfl,rfl⟩:=cq rfl
   cases fm:decF (zt (text.drop k)).2.1 <;> rw [fm] at tb
   all_goals
    apply qd [];repeat' (first|apply And.intro|(intro h;try exact cDd)|exact⟨Tryz.call117⟩|refine cpe bn ?_|exact⟨Tryz.call118⟩|refine cpe tb ?_|exact cSd|apply qb []|refine exr ?_|refine qi ?_)
   all_goals
    rw [List.length_map];rfl
theorem q16 (text:qa) (st:List AObj) (hl:text.length<1000000):qn E 35 [Sv text] st fun r st'=>r=qmu (jt text)∧st'=st:=by
 refine zx [.s text] (q00 _) Tryz.func35 rfl rfl (fun _=>rfl) rfl fun S0=>?_;by_cases hbig:120000<text.length
 ·have e:jt text=(.num 1,qev):=if_pos hbig
  rw [e];apply qd [];repeat' (first|apply And.intro|(intro h;try exact cDd)|exact cSd|apply qb []|refine exr ?_|refine qi ?_)
 have gp:=qj2 text
 have lv:(x3 text).2.length≤text.length:=by
  conv=>rhs;rw [gp.1]
  simp
 have gf:=qxq (x3 text).2;obtain⟨g,rest,bt⟩:∃ g rest,x3 text=(g,rest):=⟨_,_,rfl⟩
 have hF:jt text=match yc (rest.take (ka rest.length rest)) with
   | .no=>if (Go.Pl.recsF (text.length+1) (rest.drop (ka rest.length rest)) (((text.length - rest.length+ka rest.length rest:Nat)):Int) [] []).1=true then (.at' (Go.Pl.recsF (text.length+1) (rest.drop (ka rest.length rest)) (((text.length - rest.length+ka rest.length rest:Nat)):Int) [] []).2.1.length 10,qev)
    else (.no,⟨g,rest.take (ka rest.length rest),(Go.Pl.recsF (text.length+1) (rest.drop (ka rest.length rest)) (((text.length - rest.length+ka rest.length rest:Nat)):Int) [] []).2.1,(Go.Pl.recsF (text.length+1) (rest.drop (ka rest.length rest)) (((text.length - rest.length+ka rest.length rest:Nat)):Int) [] []).2.2.1,(Go.Pl.recsF (text.length+1) (rest.drop (ka rest.length rest)) (((text.length - rest.length+ka rest.length rest:Nat)):Int) [] []).2.2.2⟩)
   |e=>(e,qev):=by
  unfold jt;rw [if_neg hbig];unfold qcn qg5 atH qbg;rw [bt]
  try rfl
 have htk2:∀ st,qn E 62 [Sv text] st fun r st'=>r = .tu [Iv g,Sv rest]∧st'=st:=fun st=>by
  have:=zd0 text st hl;rw [bt] at this;exact this
 rw [bt] at lv gf gp;simp only at lv gf gp
 have hdr:rest.drop (ka rest.length rest)=text.drop (text.length - rest.length+ka rest.length rest):=by
  have h1:text.length=(vp g).length+rest.length:=by
   have:=congrArg List.length gp.1
   simpa using this
  conv=>rhs;rhs;rw [gp.1]
  rw [← List.drop_drop,show text.length - rest.length=(vp g).length by omega,List.drop_left]
 rw [hdr] at hF;clear hdr gp bt;have hbg:=fun st=>q91 rest st (by omega);generalize ka rest.length rest=a at hF gf hbg;have mj:=fun st=>qvw (rest.take a) st (by simp;omega);have hsub:((text.length:Int) - (rest.length:Int))+(a:Int)=((text.length - rest.length+a:Nat):Int):=by omega
 rw [show (((text.length - rest.length+a:Nat)):Int)=(((text.length - rest.length+a:Nat)):Int) from rfl] at hF;obtain⟨R,hR⟩:∃ R,Go.Pl.recsF (text.length+1) (text.drop (text.length - rest.length+a)) ((text.length - rest.length+a:Nat):Int) [] []=R:=⟨_,rfl⟩;rw [hR] at hF;have hok:=fun h=>qxs g (rest.take a) text (text.length - rest.length+a) hl (by omega) (.a (.v .nilIface)) [(0,some (.cells 26 [.i g,.s (rest.take a),.tp 1,.tp 2,.s R.2.2.2])),(1,some (.tip 1 42 (R.2.1.map zo))),(2,some (.tip 1 3 (R.2.2.1.map fun x=>Iv x)))] 3 R hR (fun _=>⟨rfl,rfl,rfl⟩) h;have cq:=fun h=>qxs g (rest.take a) text (text.length - rest.length+a) hl (by omega) (.a (errA (.at' R.2.1.length 10))) [] 1 R hR h (fun _=>⟨rfl,rfl,rfl⟩);generalize itsE (rest.take a)=its at mj
 cases hpe:yc (rest.take a) with
 |no=>
  rw [hpe] at hF mj;simp only at hF;by_cases gc:R.1=true
  ·rw [if_pos gc] at hF
   rw [hF];apply qd [];repeat' (first|apply And.intro|(intro h;try exact cDd)|exact⟨Tryz.call62⟩|refine cpe htk2 ?_|exact⟨Tryz.call63⟩|refine cpe hbg ?_|exact⟨Tryz.call64⟩|refine cpe mj ?_|exact⟨Tryz.call65⟩|(refine zy (cq fun h=>by rw [gc] at h;simp at h) ?_)|exact cSd|apply qb []|refine exr ?_|refine qi ?_)
   all_goals exact congrArg Iv hsub
  ·rw [if_neg gc] at hF
   rw [hF];apply qd [];repeat' (first|apply And.intro|(intro h;try exact cDd)|exact⟨Tryz.call62⟩|refine cpe htk2 ?_|exact⟨Tryz.call63⟩|refine cpe hbg ?_|exact⟨Tryz.call64⟩|refine cpe mj ?_|exact⟨Tryz.call65⟩|(refine zy (hok fun h=>absurd h gc) ?_)|exact cSd|apply qb []|refine exr ?_|refine qi ?_)
   all_goals exact congrArg Iv hsub
 |num n=>
  rw [hpe] at hF mj;have hF2:jt text=(.num n,qev):=hF;rw [hF2];apply qd []
  repeat' (first|apply And.intro|(intro h;try exact cDd)|exact⟨Tryz.call62⟩|refine cpe htk2 ?_|exact⟨Tryz.call63⟩|refine cpe hbg ?_|exact⟨Tryz.call64⟩|refine cpe mj ?_|exact cSd|apply qb []|refine exr ?_|refine qi ?_)
 |at' p n=>
  rw [hpe] at hF mj;have hF2:jt text=(.at' p n,qev):=hF;rw [hF2];apply qd [];repeat' (first|apply And.intro|(intro h;try exact cDd)|exact⟨Tryz.call62⟩|refine cpe htk2 ?_|exact⟨Tryz.call63⟩|refine cpe hbg ?_|exact⟨Tryz.call64⟩|refine cpe mj ?_|exact cSd|apply qb []|refine exr ?_|refine qi ?_)
theorem qyk (n:Int):(vp n).length≤100:=by
 unfold vp;split
 ·rename_i h
  have:=qvd h;omega
 ·simp
theorem q96 (b:jp) (st:List AObj) (hb:b.base.length<1000000) (he:b.ends.length<1000000):qn E 24 [qaj b] st fun r st'=>r=Iv (qa4 b)∧st'=st:=by
 have hh:=qyk b.gen;have d6:=fun st=>q7k b.gen st;refine zx [.a (qaj b)] (qt _) Tryz.func24 rfl rfl (fun _=>rfl) rfl fun S0=>?_;by_cases h0:b.ends=[]
 ·have e:qa4 b=((vp b.gen).length:Int)+(b.base.length:Int):=by simp [qa4,h0]
  rw [e];have hl0:(b.ends.map fun x=>Iv x).length=0:=by simp [h0]
  apply qd [];repeat' (first|apply And.intro|(intro h;try exact cDd)|exact⟨Tryz.call52⟩|refine cpe d6 ?_|exact cSd|apply qb []|refine exr ?_|refine qi ?_)
 ·obtain⟨x,hx⟩:∃ x,b.ends.getLast? = some x:=by
   cases h:b.ends.getLast? with
   |none=>exact absurd (List.getLast?_eq_none_iff.1 h) h0
   |some x=>exact⟨x,rfl⟩
  have e:qa4 b=x:=by simp [qa4,hx]
  rw [e];have hl0:0<b.ends.length:=List.length_pos_iff.2 h0;have o7:(b.ends.map fun x=>Iv x).length=b.ends.length:=by simp
  have hg:(b.ends.map fun x=>Iv x)[b.ends.length - 1]? = some (Iv x):=by
   rw [List.getLast?_eq_getElem?] at hx;simp [hx]
  apply qd [];repeat' (first|apply And.intro|(intro h;try exact cDd)|exact⟨Tryz.call52⟩|refine cpe d6 ?_|(refine Exists.intro (b.ends.length - 1) ⟨by omega,_,hg,?_⟩)|exact cSd|apply qb []|refine exr ?_|refine qi ?_)
theorem qvu:∀ r:List (List ql),r.length≤(kl r).length
 | []=>by simp [kl]
 |b::r=>by
  have:=qvu r;have h1:=qqk b;rw [ym];simp;omega
structure zgq (text:qa) (b:jp):Prop where
 base:b.base.length<1000000
 tail:b.tail.length<1000000
 ends : b.ends.length < 1000000
 whole:qa4 b=((yf b).length:Int)
 wlen:(yf b).length≤text.length
 size:qa4 b+b.tail.length=text.length
theorem q01 {text:qa} {b:jp} (h:vu text b):zgq text b:=by
 have h1:=congrArg List.length h.split;have h2:=h.len;have h3:=qvu b.batches;have h4:=h.whole;simp only [List.length_append,yf] at h1;refine⟨by omega,by omega,by rw [h.ends,qh0];omega,h4,by simp only [yf,List.length_append];omega,?_⟩;rw [h4];simp only [yf,List.length_append];omega
theorem q6g (text:qa) (x:List ql) (st:List AObj) (hl:text.length<1000000) (hB:∀ y∈x,EdB y) (hx:x.length<1000000):qn E 34 [Sv text,zo x] st fun r st'=>r = .tu [Sv (Go.Pl.appF text x).2,errA (Go.Pl.appF text x).1]∧st'=st:=by
 refine zx [.s text,.a (zo x)] (kc (qt _) (jx _)) Tryz.func34 rfl rfl (fun _=>rfl) rfl fun S0=>?_;have cr:=fun st=>q16 text st hl;unfold Go.Pl.appF;have mw:jt text=((jt text).1,(jt text).2):=rfl
 cases s7:(jt text).1 with
 |no=>
  rw [s7] at mw;have hT:=qkw mw;have hS:=q01 hT;obtain⟨lw,ml,hs3,hs4,hs5,hs6⟩:=hS;rw [mw] at cr;generalize (jt text).2=b at cr hT lw ml hs3 hs4 hs5 hs6;unfold qmu at cr;have hwh:=fun st=>q96 b st lw hs3;rw [hs4] at hwh;simp only [hs4,Int.toNat_natCast];have htl:=hT.len
  cases hee:eErr x with
  |no=>
   have cj:=fun st=>qu2 x st hB hee;by_cases h5:50000<(encF x).length
   ·simp only [if_pos h5]
    apply qd [];repeat' (first|apply And.intro|(intro h;try exact cDd)|exact⟨Tryz.call35⟩|refine cpe cr ?_|exact⟨Tryz.call60⟩|refine cpe cj ?_|exact cSd|apply qb []|refine exr ?_|refine qi ?_)
   ·simp only [if_neg h5]
    have hgx:qc5 x:=⟨hee,hB,by omega⟩;have hrc:=fun st=>q8l (encF x) st (by omega) hgx.good;have lv:=q5c hgx.good;have tv:recF (encF x)=recE x:=rfl;rw [tv] at hrc lv;by_cases h12:(120000:Int)<((yf b).length:Int)+((recE x).length:Int)
    ·rw [if_pos h12]
     apply qd [];repeat' (first|apply And.intro|(intro h;try exact cDd)|exact⟨Tryz.call35⟩|refine cpe cr ?_|exact⟨Tryz.call60⟩|refine cpe cj ?_|exact⟨Tryz.call61⟩|refine cpe hrc ?_|exact⟨Tryz.call24⟩|refine cpe hwh ?_|exact cSd|apply qb []|refine exr ?_|refine qi ?_)
    ·rw [if_neg h12]
     apply qd []
     repeat' (first|apply And.intro|(intro h;try exact cDd)|exact⟨Tryz.call35⟩|refine cpe cr ?_|exact⟨Tryz.call60⟩|refine cpe cj ?_|exact⟨Tryz.call61⟩|refine cpe hrc ?_|exact⟨Tryz.call24⟩|refine cpe hwh ?_|exact cSd|apply qb []|refine exr ?_|refine qi ?_)
  |num n=>
   have cj:=fun st=>qi3 x st _ hB (by omega) hee (fun h=>by have:=(qi2 x).1 (by rw [hee];exact h);rw [hee] at this;simp at this);apply qd []
   repeat' (first|apply And.intro|(intro h;try exact cDd)|exact⟨Tryz.call35⟩|refine cpe cr ?_|exact⟨Tryz.call60⟩|refine cpe cj ?_|exact cSd|apply qb []|refine exr ?_|refine qi ?_)
  |at' p n=>
   have cj:=fun st=>qi3 x st _ hB (by omega) hee (fun h=>by have:=(qi2 x).1 (by rw [hee];exact h);rw [hee] at this;simp at this);apply qd []
   repeat' (first|apply And.intro|(intro h;try exact cDd)|exact⟨Tryz.call35⟩|refine cpe cr ?_|exact⟨Tryz.call60⟩|refine cpe cj ?_|exact cSd|apply qb []|refine exr ?_|refine qi ?_)
 |num n=>
  rw [s7] at mw;rw [mw] at cr;unfold qmu at cr;apply qd []
  repeat' (first|apply And.intro|(intro h;try exact cDd)|exact⟨Tryz.call35⟩|refine cpe cr ?_|exact cSd|apply qb []|refine exr ?_|refine qi ?_)
 |at' p n=>
  rw [s7] at mw;rw [mw] at cr;unfold qmu at cr;apply qd [];repeat' (first|apply And.intro|(intro h;try exact cDd)|exact⟨Tryz.call35⟩|refine cpe cr ?_|exact cSd|apply qb []|refine exr ?_|refine qi ?_)
end Go.Proofs.YtihlchbgjdkmpaaGreatDoor
namespace Go.Pl
open Go Go.Proofs
structure EntV where
 x:za
 id:Int
structure qq where
 ents:List EntV
 next:Int
 many:Int
def xf (l:qq) (x:za):qq:=if x.kind=3 then⟨l.ents++[⟨x,l.next⟩],l.next+1,l.many+1⟩ else⟨l.ents++[⟨x,0⟩],l.next,l.many⟩
def ofF (its:List za):qq:=its.foldl xf ⟨[],1,0⟩
end Go.Pl
namespace Go.Proofs.YtihlchbgjdkmpaaGreatDoor
open Go Go.Av Go.RowKit Go.Proofs Go.Pl
@[reducible] def entA (e : EntV) : AV := .ag [Iv e.x.kind, Sv e.x.raw, kj e.x.fields, Iv e.id]
@[reducible] def kf (l : qq) : AV := .pp [.sl 4 (l.ents.map entA) none, Iv l.next, Iv l.many]
def qsg (e:ErrV) (l:qq):AV:=match e with
 | .no=>.tu [kf l,errA .no]
 |e=>.tu [.v (.pointer none),errA e]
theorem qr2 (e:EntV):qfs (entA e):=fun y hy=>by
 simp only [AV.cells,List.mem_cons,List.not_mem_nil,or_false] at hy;rcases hy with rfl|rfl|rfl|rfl
 ·exact qt _
 ·exact qt _
 ·exact y4 _
 ·exact qt _
theorem qhe (l:qq):Pure (kf l):=qtw fun x hx=>by
 simp only [List.mem_cons,List.not_mem_nil,or_false] at hx;rcases hx with rfl|rfl|rfl
 ·exact qar fun x hx=>by
   obtain⟨f,_,rfl⟩:=List.mem_map.1 hx;exact qr2 f
 ·exact qt _
 ·exact qt _
theorem qjy (e:ErrV) (l:qq):Pure (qsg e l):=by
 cases e with
 |no=>exact kc (qhe l) (jx _)
 |num n=>exact kc (qt _) (jx _)
 |at' a n=>exact kc (qt _) (jx _)
theorem qhj:∀ (n:Nat) (rest:qa) (k:Nat) (p:PSt),rest.length≤n→PB (4 * k) p→k+rest.length≤60000→(runL k (zl rest) p).2.items.length≤300000:=by
 have nil:∀ (k:Nat) (p:PSt),PB (4 * k) p→k≤60000→(runL k (zl []) p).2.items.length≤300000:=fun k p hB hk=>by
  have e:je p 0 [] true 1=endP p:=rfl;have h:=qiu (no:=0) (text:=[]) (ended:=true) (kind:=1) hB (by omega) (by simp);rw [e] at h;have e2:runL k (zl []) p=endP p:=by rw [vi];rfl
  rw [e2];have:=h.items;omega
 intro n
 induction n with
 |zero=>
  intro rest k p hr hB hk;obtain rfl:rest=[]:=List.eq_nil_of_length_eq_zero (by omega)
  exact nil k p hB (by simpa using hk)
 |succ n ih=>
  intro rest k p hr hB hk;by_cases b9:rest=[]
  ·subst b9
   exact nil k p hB (by simpa using hk)
  ·have hu:=vb 10 rest
   have fc:=km 10 rest;have hr0:0<rest.length:=List.length_pos_iff.2 b9;rw [v8 b9];simp only [runL];have fg:=qqq (no:=k) (text:=upto 10 rest) (ended:=decide (10∈rest)) hB (by omega) (by omega);split
   ·have:=hB.items
    simp only;omega
   ·exact ih (past 10 rest) (k+1) _ (by omega) fg (by omega)
theorem qyu (text:qa):(itsE text).length≤300000:=by
 unfold itsE;split
 ·simp
 ·have h:=qhj text.length text 0 p0 (Nat.le_refl _) q43 (by omega)
  unfold jk;split
  ·simp
  ·exact h
theorem za6 (text:qa) (st:List AObj) (hl:text.length<1000000):qn E 66 [Sv text] st fun r st'=>r=qsg (yc text) (ofF (itsE text))∧st'=st:=by
 refine qlt [.s text] (qjy _ _) Tryz.func66 rfl rfl (fun _=>rfl) rfl fun S0=>?_;have hp:=fun st=>qvw text st hl;have rx:=qyu text;generalize itsE text=its at hp rx
 cases he:yc text with
 |num n=>
  rw [he] at hp;apply qd [19]
  repeat' (first|apply And.intro|(intro h;try exact cDd)|exact⟨Tryz.call64⟩|refine cpe hp ?_|exact cSd|apply qb [19]|refine exr ?_|refine qi ?_)
 |at' a n=>
  rw [he] at hp;apply qd [19]
  repeat' (first|apply And.intro|(intro h;try exact cDd)|exact⟨Tryz.call64⟩|refine cpe hp ?_|exact cSd|apply qb [19]|refine exr ?_|refine qi ?_)
 |no=>
  rw [he] at hp;apply qd [19];repeat' (first|apply And.intro|(intro h;try exact cDd)|exact⟨Tryz.call64⟩|refine cpe hp ?_|exact cSd|apply qb [19]|refine exr ?_|refine qi ?_)
  refine w7 (X:=Nat×qq) (fun (k,l)=>⟨[(6,.bx 0 0),(20,.a (ww its)),(21,.i its.length),(22,.i k)],[(0,some (.cells 144 [.tp 1,.i l.next,.i l.many])),(1,some (.tip 4 100 (l.ents.map entA)))],2⟩)
   (fun (k,l)=>k≤its.length∧l.ents.length=k∧(1≤l.next∧l.next≤k+1∧0≤l.many∧l.many≤k)∧(its.drop k).foldl xf l=ofF its) (fun (k,l)=>its.length - k) (0,⟨[],1,0⟩) ⟨by omega,rfl,⟨by decide,by decide,by decide,by decide⟩,rfl⟩ ?_ ?_
  ·skip
   repeat' (first|apply And.intro|(intro h;try exact cDd)|exact cSd|apply qb []|refine exr ?_|refine qi ?_)
   all_goals (simp;done)
  ·rintro⟨k,l⟩ ⟨hk,hlk,dk,a8⟩
   by_cases i6:k<its.length
   ·have hx:its[k]? = some its[k]:=List.getElem?_eq_getElem i6
    have o8:(its.map v6)[k]? = some (v6 its[k]):=by rw [List.getElem?_map,hx];rfl
    rw [List.drop_eq_getElem_cons i6,List.foldl_cons] at a8;have o7:(l.ents.map entA).length=l.ents.length:=by simp
    generalize its[k]=x at hx o8 a8;by_cases pf:x.kind=3
    ·have e:xf l x=⟨l.ents++[⟨x,l.next⟩],l.next+1,l.many+1⟩:=if_pos pf
     rw [e] at a8;apply qd [];repeat' (first|apply And.intro|(intro h;try exact cDd)|(refine Exists.intro (k) ⟨by omega,_,o8,?_⟩)|(refine Exists.intro (k+1,⟨l.ents++[⟨x,l.next⟩],l.next+1,l.many+1⟩) ⟨⟨by omega,by simp [hlk],by simp only;omega,a8⟩,by simp only;omega,?_⟩)|exact cSd|apply qb []|refine exr ?_|refine qi ?_)
     all_goals (simp;done)
    ·have e:xf l x=⟨l.ents++[⟨x,0⟩],l.next,l.many⟩:=if_neg pf
     rw [e] at a8;apply qd [];repeat' (first|apply And.intro|(intro h;try exact cDd)|(refine Exists.intro (k) ⟨by omega,_,o8,?_⟩)|(refine Exists.intro (k+1,⟨l.ents++[⟨x,0⟩],l.next,l.many⟩) ⟨⟨by omega,by simp [hlk],by simp only;omega,a8⟩,by simp only;omega,?_⟩)|exact cSd|apply qb []|refine exr ?_|refine qi ?_)
     all_goals (simp;done)
   ·have i6:k=its.length:=by omega
    subst i6;rw [List.drop_length] at a8;have e:ofF its=l:=a8.symm;rw [e];apply qd [];repeat' (first|apply And.intro|(intro h;try exact cDd)|exact cSd|apply qb []|refine exr ?_|refine qi ?_)
end Go.Proofs.YtihlchbgjdkmpaaGreatDoor
namespace Go.Av
open Go Go.RowKit
theorem qjp {E:Env} {rd:Option Nat} {N:Nat} {ops:Array Oper} {K:AS→Prop} {s:AS} {rest:List Oper} {d:Option Tmp} {T:TypeId} {p:String} {af:Array Edge} {x:Operand} {t t' te:TypeId} {sz:Nat} {xs:List AV} {tip:Option Nat} (hx:qg N s x = .sl sz xs tip) (hu:E.P.underlying t=some (.slice te))
  (h1:xs=[]→AOps E rd N ops rest K (s.put d (Bv true))) (h2:AOps E rd N ops rest K (s.put d (Bv false))):AOps E rd N ops (⟨d,.binOp .eql t x (.const (.slice none 0 0)) t',T,p,af,none⟩::rest) K s:=by
 refine qz rfl (qw nofun fun B0 w0 G a w _ hI=>?_);have he:=hI.eval_of hx
 have key:∃ q n c,a.eval x = .slice q n c∧(q.isNone=true→xs=[]):=by
  generalize a.eval x=u at he
  cases he with
  |sl0=>exact⟨_,_,_,rfl,fun _=>rfl⟩
  |sl=>exact⟨_,_,_,rfl,fun h=>by simp at h⟩
 obtain⟨q,n,c,hv,hq0⟩:=key;have hc:a.eval (.const (.slice none 0 0)) = .slice none 0 0:=rfl;have hq:=Lib.run_eql_slice_nil (P:=E.P) w t te q n c 0 0 hu;refine⟨_,w,G,.v (.bool q.isNone),s.st,?_,.refl G,hI.agree,.v _,?_⟩
 ·generalize a.eval = ρ at hv hc
  simp [execOp,hv,hc,eqGuard_at_slice,hq]
 ·cases hb:q.isNone with
  |true=>exact h1 (hq0 hb)
  |false=>exact h2
theorem qb8.len0 {c:AV} (h:qb8 c):∀ (G:Gh) (v:Value),Rel G c v→∃ b n cp,v = .slice b n cp∧n≤cp:=fun G v hv=>by
 obtain⟨base,rfl⟩:=h.val G v hv;exact⟨_,_,_,rfl,Nat.le_refl _⟩
end Go.Av
namespace Go.Proofs.YtihlchbgjdkmpaaGreatDoor
open Go Go.Av Go.RowKit Go.Proofs Go.Pl
theorem qew (fs:List Fld) (st:List AObj) (hl:fs.length<1000000):qn E 40 [kj fs] st fun r st'=>r=kj fs∧st'=st:=by
 refine zb (y4 _) (qr Tryz.func40 rfl (Nat.le_of_ble_eq_true rfl) ?_);have o7:(fs.map fldA).length=fs.length:=by simp
 rw [List.append_nil];repeat' (first|(apply qbw (st:=st);(iterate 6 exact rfl))|(apply qjp;exact rfl;exact rfl;intro h0)|apply qm|apply qe|apply qf|apply qj|apply qh|(apply qc;exact rfl;apply cd_t;exact cRa)|(apply qc;exact rfl;apply cd_f;exact cRa)|apply qx|apply qu|(apply qhw (b:=st.length) (xs:=[]) (ys:=fs.map fldA) (bytes:=32);(iterate 5 exact rfl);exact⟨⟨_,_,rfl,rfl,rfl,rfl,rfl⟩⟩;(focus (repeat' (first|assumption|exact q0h _ _ _ _|exact q3b _ _ _ _ _ _ _|apply qqv|apply qv3|(refine yp (T:=_) (ver:=_) (cs:=_) ?_)|exact xc|exact jh rfl|apply jq|apply jg|omega|apply qa8)));(exact qfl);(first|exact rfl|exact qbu fun _=>rfl);((simp [maxLen];omega));((simp;omega));intro c' S' t1 g1 g2 g3 g4))
 ·exact qo rfl (w9 (zi rfl) (fun G v h=>by
   rw [kj,h0]
   exact qbt h)) ⟨rfl,_,(List.append_nil st).symm⟩
 ·exact qo rfl (w9 (zi rfl) (qlx g1)) ⟨rfl,qtn fun j hj=>(g2.same j (by omega) (Nat.lt_of_lt_of_le hj qfl)).trans (List.getElem?_append_left hj)⟩
theorem q38 (es:List EntV) (st:List AObj) (hl:es.length<1000000):qn E 169 [.sl 4 (es.map entA) none] st fun r st'=>OwnR 4 100 (es.map entA) st (.v undef) r st':=by
 refine qr Tryz.func169 rfl (Nat.le_of_ble_eq_true rfl) ?_;have o7:(es.map entA).length=es.length:=by simp
 rw [List.append_nil];by_cases he:es=[]
 ·subst he
  repeat' (first|(apply qbw (st:=st);(iterate 6 exact rfl))|(apply qjp;exact rfl;exact rfl;intro h0)|(apply qw9 (c:=.os st.length 0 0 0 0);exact rfl;exact (qni _ _ _).len0;exact fun _ _ h=>h;exact rfl;exact rfl;exact⟨⟨_,_,rfl,rfl,rfl,rfl,rfl⟩⟩)|apply qm|apply qe|apply qf|apply qj|apply qh|(apply qc;exact rfl;apply cd_t;exact cRa)|(apply qc;exact rfl;apply cd_f;exact cRa)|apply qx|apply qu)
  ·exact qo rfl (zi rfl) ⟨.inl ⟨rfl,qqf none⟩,Nat.le_refl _,fun _ _ _=>rfl,fun o ho=>by
   have ho:(none:Option Nat)=some o:=ho
   simp at ho⟩
  ·exact qo rfl (zi rfl) ⟨.inl ⟨rfl,qni _ _ _⟩,qfl,fun j hj _=>List.getElem?_append_left hj,fun o ho=>by
   have ho:(none:Option Nat)=some o:=ho
   simp at ho⟩
 ·have b9:es.map entA≠[]:=by simpa using he
  repeat' (first|(apply qbw (st:=st);(iterate 6 exact rfl))|(apply qjp;exact rfl;exact rfl;intro h0)|(refine qhv (ys:=es.map entA) (bytes:=56) (qni _ _ _).val (fun _ _ h=>h) rfl rfl ⟨⟨_,_,rfl,rfl,rfl,rfl,rfl⟩⟩ (qbu fun _=>rfl) b9 (by simp [maxLen];omega) (by simp;omega) fun cap pad q1 q2 q3 q4=>?_)|apply qm|apply qe|apply qf|apply qj|apply qh|(apply qc;exact rfl;apply cd_t;exact cRa)|(apply qc;exact rfl;apply cd_f;exact cRa)|apply qx|apply qu)
  ·exact absurd h0 b9
  ·refine qo rfl (zi rfl) ⟨.inr ⟨_,0,cap,pad,rfl,xc,q1,q2,q3,q4⟩,Nat.le_trans qfl qfl,fun j hj _=>?_,fun o ho=>?_⟩
   ·show ((st++[_])++[_])[j]? = _
    rw [List.getElem?_append_left (by simp;omega),List.getElem?_append_left hj]
   ·have d7:some (st++[AObj.cells 0 100 []]).length=some o:=ho
    simp only [Option.some.injEq] at d7;left;rw [← d7];simp
end Go.Proofs.YtihlchbgjdkmpaaGreatDoor
namespace Go.Pl
open Go Go.Proofs
def xd (id:Int):Nat→List EntV→Int
 | _,[]=> -1
 |k,e::r=>if e.id=id then (k:Int) else xd id (k+1) r
def atF (l:qq) (id:Int):Int:=if id<1 then -1 else xd id 0 l.ents
theorem qr8 (id:Int):∀ (es:List EntV) (k:Nat),xd id k es = -1∨∃ i e,xd id k es=((k+i:Nat):Int)∧es[i]? = some e∧e.id=id
 | [],k=>.inl rfl
 |e::r,k=>by
  unfold xd;by_cases h:e.id=id
  ·rw [if_pos h]
   exact .inr ⟨0,e,by simp,rfl,h⟩
  ·rw [if_neg h]
   rcases qr8 id r (k+1) with g | ⟨i,e',g1,g2,g3⟩
   ·exact .inl g
   ·exact .inr ⟨i+1,e',by rw [g1];congr 1;omega,by simpa using g2,g3⟩
theorem qhy (l:qq) (id:Int):atF l id = -1∨∃ (i:Nat) (e:EntV),atF l id=(i:Int)∧l.ents[i]? = some e∧e.id=id∧1≤id:=by
 unfold atF;by_cases h:id<1
 ·exact .inl (if_pos h)
 ·rw [if_neg h]
  rcases qr8 id l.ents 0 with g | ⟨i,e,g1,g2,g3⟩
  ·exact .inl g
  ·exact .inr ⟨i,e,by rw [g1];congr 1;omega,g2,g3,by omega⟩
end Go.Pl
namespace Go.Proofs.YtihlchbgjdkmpaaGreatDoor
open Go Go.Av Go.RowKit Go.Proofs Go.Pl
theorem zgu (e:EntV) (id:Int) (st:List AObj):qn E 229 [entA e,.pp [Iv id]] st fun r st'=>r=Bv (decide (e.id=id))∧st'=st:=by
 refine zx [.a (entA e),.a (.pp [Iv id])] (qt _) Tryz.func229 rfl rfl (fun _=>rfl) rfl fun S0=>?_;apply qd [];repeat' (first|apply And.intro|(intro h;try exact cDd)|exact cSd|apply qb []|refine exr ?_|refine qi ?_)
@[reducible] def atFn (id : Int) : SV := .fn (.func 229) [] [.a (.pp [Iv id])]
theorem zd9 (l:qq) (st:List AObj):qn E 71 [kf l] st fun r st'=>r=Iv l.next∧st'=st:=by
 refine zx [.a (kf l)] (qt _) Tryz.func71 rfl rfl (fun _=>rfl) rfl fun S0=>?_;apply qd [];repeat' (first|apply And.intro|(intro h;try exact cDd)|exact cSd|apply qb []|refine exr ?_|refine qi ?_)
@[reducible] def lstH (a : Nat) (l : qq) : List (Nat × Option SR) := [(0, some (.cells 144 [.tp a, .i l.next, .i l.many])), (a, some (.own 4 100 (l.ents.map entA)))]
theorem zay (es:List EntV) (id:Int) (hl:es.length<1000000):j8 E 228 [.tp 0,atFn id] 1 (hpF [(0,some (.own 4 100 (es.map entA)))]) ⟨.i (xd id 0 es),ju [(0,some (.own 4 100 (es.map entA)))],[(0,some (.own 4 100 (es.map entA)))]++kz [(0,some (.own 4 100 (es.map entA)))],1⟩:=by
 refine wh [.tp 0,atFn id] [(0,some (.own 4 100 (es.map entA)))] 1 (.i (xd id 0 es)) [(0,some (.own 4 100 (es.map entA)))] 1 Tryz.func228 rfl rfl rfl rfl fun S F ρ=>?_;have o7:(es.map entA).length=es.length:=by simp
 apply qd [];repeat' (first|apply And.intro|(intro h;try exact cDd)|exact cSd|apply qb []|refine exr ?_|refine qi ?_)
 refine w7 (X:=Nat) (fun k=>⟨[(0,.tp 0),(1,atFn id),(7,.i es.length),(8,.i k)],[(0,some (.own 4 100 (es.map entA)))],1⟩) (fun k=>k≤es.length∧xd id k (es.drop k)=xd id 0 es) (fun k=>es.length - k) 0 ⟨by omega,by simp⟩ ?_ ?_
 ·skip
  repeat' (first|apply And.intro|(intro h;try exact cDd)|exact cSd|apply qb []|refine exr ?_|refine qi ?_)
  all_goals (simp;done)
 ·rintro k ⟨hk,a8⟩
  by_cases i6:k<es.length
  ·have hx:es[k]? = some es[k]:=List.getElem?_eq_getElem i6
   have o8:(es.map entA)[k]? = some (entA es[k]):=by rw [List.getElem?_map,hx];rfl
   rw [List.drop_eq_getElem_cons i6,xd] at a8;generalize es[k]=e at hx o8 a8;have h1:=fun st=>zgu e id st;by_cases bz:e.id=id
   ·rw [if_pos bz] at a8
    rw [decide_eq_true bz] at h1;rw [← a8];apply qd [];repeat' (first|apply And.intro|(intro h;try exact cDd)|(refine qlk (i:=k) rfl rfl rfl rfl rfl rfl (by omega) ?_)|(refine qqh (i:=k) (j:=0) rfl rfl rfl rfl o8 rfl rfl ?_)|exact⟨Tryz.call229⟩|refine cpe h1 ?_|exact cSd|apply qb []|refine exr ?_|refine qi ?_)
   ·rw [if_neg bz] at a8
    rw [decide_eq_false bz] at h1;apply qd [];repeat' (first|apply And.intro|(intro h;try exact cDd)|(refine qlk (i:=k) rfl rfl rfl rfl rfl rfl (by omega) ?_)|(refine qqh (i:=k) (j:=0) rfl rfl rfl rfl o8 rfl rfl ?_)|exact⟨Tryz.call229⟩|refine cpe h1 ?_|(refine Exists.intro (k+1) ⟨⟨by omega,a8⟩,by omega,?_⟩)|exact cSd|apply qb []|refine exr ?_|refine qi ?_)
  ·have i6:k=es.length:=by omega
   subst i6;rw [List.drop_length,xd] at a8;rw [← a8];apply qd [];repeat' (first|apply And.intro|(intro h;try exact cDd)|exact cSd|apply qb []|refine exr ?_|refine qi ?_)
theorem qn6 (l:qq) (id:Int) (hl:l.ents.length<1000000):j8 E 174 [.bx 0 0,.i id] 2 (hpF (lstH 1 l)) ⟨.i (atF l id),ju (lstH 1 l),lstH 1 l++kz (lstH 1 l),2⟩:=by
 refine wh [.bx 0 0,.i id] (lstH 1 l) 2 (.i (atF l id)) (lstH 1 l) 2 Tryz.func174 rfl rfl rfl rfl fun S F ρ=>?_;unfold atF;have h1:=zay l.ents id hl;by_cases h:id<1
 ·rw [if_pos h]
  apply qd [];repeat' (first|apply And.intro|(intro h;try exact cDd)|exact cSd|apply qb []|refine exr ?_|refine qi ?_)
 ·rw [if_neg h]
  apply qd [];repeat' (first|apply And.intro|(intro h;try exact cDd)|exact⟨Tryz.call228⟩|(refine zy h1 ?_)|exact cSd|apply qb []|refine exr ?_|refine qi ?_)
end Go.Proofs.YtihlchbgjdkmpaaGreatDoor
namespace Go.Pl
open Go Go.Proofs
def qt2 (fs:List Fld):qa:=if zw fs = .no then ke fs else []
def x2 (fs:List Fld):za:=if zw fs = .no then⟨3,ke fs,fs⟩ else⟨0,[],[]⟩
def vr (its:List za):qa:=its.flatMap fun x=>x.raw
theorem qei (a b:List za):vr (a++b)=vr a++vr b:=by simp [vr]
theorem qej (x:za):vr [x]=x.raw:=by simp [vr]
def kp (prev:Bool):List za→List za
 | []=>[]
 |x::r=>(if prev=true∧x.kind≠1 then [⟨1,[10],[]⟩,x] else [x])++kp (decide (x.kind≠1)) r
def qae (its:List za):List za:=kp false its
def ja (l:qq):List za:=l.ents.map fun e=>e.x
def qok (l:qq):qa:=vr (qae (ja l))
end Go.Pl
namespace Go.Proofs.YtihlchbgjdkmpaaGreatDoor
open Go Go.Av Go.RowKit Go.Proofs Go.Pl
theorem q8g (fs:List Fld) (st:List AObj) (hK:KeyB fs) (hl:fs.length<9223372036854775808):qn E 262 [kj fs] st fun r st'=>r = .tu [Sv (qt2 fs),errA (zw fs)]∧st'=st:=by
 refine zx [.a (kj fs)] (kc (qt _) (jx _)) Tryz.func262 rfl rfl (fun _=>rfl) rfl fun S0=>?_;unfold qt2
 cases he:zw fs with
 |no=>
  rw [if_pos rfl];have h1:=fun st=>qlp fs st _ he hK hl;obtain⟨_,h3,h4⟩:=qc7 he;have h2:=fun st=>qr6 fs st h3 h4;apply qd []
  repeat' (first|apply And.intro|(intro h;try exact cDd)|exact⟨Tryz.call200⟩|refine cpe h1 ?_|exact⟨Tryz.call100⟩|refine cpe h2 ?_|exact cSd|apply qb []|refine exr ?_|refine qi ?_)
 |num n=>
  rw [if_neg (by simp)];have h1:=fun st=>qlp fs st _ he hK hl;apply qd []
  repeat' (first|apply And.intro|(intro h;try exact cDd)|exact⟨Tryz.call200⟩|refine cpe h1 ?_|exact cSd|apply qb []|refine exr ?_|refine qi ?_)
 |at' a n=>
  rw [if_neg (by simp)];have h1:=fun st=>qlp fs st _ he hK hl;apply qd [];repeat' (first|apply And.intro|(intro h;try exact cDd)|exact⟨Tryz.call200⟩|refine cpe h1 ?_|exact cSd|apply qb []|refine exr ?_|refine qi ?_)
theorem q20 (fs:List Fld) (st:List AObj) (hK:KeyB fs) (hl:fs.length<1000000):qn E 224 [kj fs] st fun r st'=>r = .tu [v6 (x2 fs),errA (zw fs)]∧st'=st:=by
 refine zx [.a (kj fs)] (kc (qcb (qju _)) (jx _)) Tryz.func224 rfl rfl (fun _=>rfl) rfl fun S0=>?_;have h1:=fun st=>q8g fs st hK (by omega);have h2:=fun st=>qew fs st hl;unfold qt2 at h1;unfold x2
 cases he:zw fs with
 |no=>
  rw [he,if_pos rfl] at h1;rw [if_pos rfl];apply qd []
  repeat' (first|apply And.intro|(intro h;try exact cDd)|exact⟨Tryz.call262⟩|refine cpe h1 ?_|exact⟨Tryz.call40⟩|refine cpe h2 ?_|exact cSd|apply qb []|refine exr ?_|refine qi ?_)
 |num n=>
  rw [he,if_neg (by simp)] at h1;rw [if_neg (by simp)];apply qd []
  repeat' (first|apply And.intro|(intro h;try exact cDd)|exact⟨Tryz.call262⟩|refine cpe h1 ?_|exact cSd|apply qb []|refine exr ?_|refine qi ?_)
 |at' a n=>
  rw [he,if_neg (by simp)] at h1;rw [if_neg (by simp)];apply qd [];repeat' (first|apply And.intro|(intro h;try exact cDd)|exact⟨Tryz.call262⟩|refine cpe h1 ?_|exact cSd|apply qb []|refine exr ?_|refine qi ?_)
theorem zaa (x:za) (st:List AObj) (hl:x.fields.length<1000000):qn E 138 [v6 x] st fun r st'=>r=v6 x∧st'=st:=by
 refine zx [.a (v6 x)] (qcb (qju _)) Tryz.func138 rfl rfl (fun _=>rfl) rfl fun S0=>?_;have h2:=fun st=>qew x.fields st hl;apply qd [1];repeat' (first|apply And.intro|(intro h;try exact cDd)|exact⟨Tryz.call40⟩|refine cpe h2 ?_|exact cSd|apply qb [1]|refine exr ?_|refine qi ?_)
structure ItsB (its:List za):Prop where
 len:its.length≤1000000
 fld:∀ x∈its,x.fields.length<1000000
theorem que (prev:Bool):∀ its:List za,(kp prev its).length≤2 * its.length
 | []=>by simp [kp]
 |x::r=>by
  have ih:=que (decide (x.kind≠1)) r;unfold kp;split <;> simp only [List.length_append,List.length_cons,List.length_nil] <;> omega
theorem zbj (its:List za) (st:List AObj) (hB:ItsB its):qn E 93 [ww its] st fun r st'=>r=ww (qae its)∧st'=st:=by
 refine zx [.a (ww its)] (qfz _) Tryz.func93 rfl rfl (fun _=>rfl) rfl fun S0=>?_;have hln:=hB.len;apply qd [];repeat' (first|apply And.intro|(intro h;try exact cDd)|exact cSd|apply qb []|refine exr ?_|refine qi ?_)
 refine w7 (X:=Nat×List za) (fun (k,out)=>⟨[(0,.a (ww its)),(3,.tp 0),(6,.a (ww its)),(7,.i its.length),(8,.i k)],[(0,some (.tip 3 98 (out.map v6)))],1⟩)
  (fun (k,out)=>k≤its.length∧out.length≤2 * k∧∃ prev,(prev=true↔∃ y,0<k∧its[k - 1]? = some y∧y.kind≠1)∧out++kp prev (its.drop k)=qae its) (fun (k,out)=>its.length - k) (0,[]) ⟨by omega,by simp,false,by simp,rfl⟩ ?_ ?_
 ·skip
  repeat' (first|apply And.intro|(intro h;try exact cDd)|exact cSd|apply qb []|refine exr ?_|refine qi ?_)
  all_goals (simp;done)
 ·rintro⟨k,out⟩ ⟨hk,sf,prev,hpv,a8⟩
  by_cases i6:k<its.length
  ·have hx:its[k]? = some its[k]:=List.getElem?_eq_getElem i6
   have o8:(its.map v6)[k]? = some (v6 its[k]):=by rw [List.getElem?_map,hx];rfl
   have hxf:=hB.fld its[k] (List.getElem_mem i6);rw [List.drop_eq_getElem_cons i6,kp] at a8;generalize its[k]=x at hx o8 a8 hxf;have ng:=fun st=>zaa x st hxf;have o7:(out.map v6).length=out.length:=by simp
   have hnext:(decide (x.kind≠1)=true↔∃ y,0<k+1∧its[k+1 - 1]? = some y∧y.kind≠1):=by
    rw [decide_eq_true_iff,Nat.add_sub_cancel,hx];constructor
    ·intro h
     exact⟨x,by omega,rfl,h⟩
    ·rintro⟨y,_,h1,h2⟩
     simp only [Option.some.injEq] at h1;rw [h1];exact h2
   by_cases hk0:k=0
   ·have hp:¬ (prev=true):=fun h=>by
     obtain⟨_,h,_⟩:=hpv.1 h;omega
    rw [if_neg (fun h=>hp h.1)] at a8;apply qd [];repeat' (first|apply And.intro|(intro h;try exact cDd)|(refine Exists.intro (k) ⟨by omega,_,o8,?_⟩)|exact⟨Tryz.call138⟩|refine cpe ng ?_|(refine Exists.intro (k+1,out++[x]) ⟨⟨by omega,by simp;omega,_,hnext,by rw [← a8];simp⟩,by simp only;omega,?_⟩)|exact cSd|apply qb []|refine exr ?_|refine qi ?_)
    all_goals first|(simp [SV.evs,SV.ev];done)|(simp [SV.evs];omega)
   ·obtain⟨y,hy⟩:∃ y,its[k - 1]? = some y:=⟨_,List.getElem?_eq_getElem (by omega:k - 1<its.length)⟩
    have hym:(its.map v6)[k - 1]? = some (v6 y):=by rw [List.getElem?_map,hy];rfl
    have hpy:(prev=true↔y.kind≠1):=by
     rw [hpv];constructor
     ·rintro⟨z,_,h1,h2⟩
      rw [hy] at h1;simp only [Option.some.injEq] at h1;rw [h1];exact h2
     ·exact fun h=>⟨y,by omega,hy,h⟩
    by_cases hb:x.kind≠1∧y.kind≠1
    ·rw [if_pos ⟨hpy.2 hb.2,hb.1⟩] at a8
     obtain⟨p6,cn⟩:=hb;apply qd [];repeat' (first|apply And.intro|(intro h;try exact cDd)|(refine Exists.intro (k) ⟨by omega,_,o8,?_⟩)|(refine Exists.intro (k - 1) ⟨by omega,_,hym,?_⟩)|exact⟨Tryz.call138⟩|refine cpe ng ?_|(refine Exists.intro (k+1,out++[⟨1,[10],[]⟩,x]) ⟨⟨by omega,by simp;omega,_,hnext,by rw [← a8];simp⟩,by simp only;omega,?_⟩)|exact cSd|apply qb []|refine exr ?_|refine qi ?_)
     all_goals first|(simp [SV.evs,SV.ev];done)|(simp [SV.evs];omega)
    ·rw [if_neg (fun h=>hb ⟨h.2,hpy.1 h.1⟩)] at a8
     apply qd [];repeat' (first|apply And.intro|(intro h;try exact cDd)|(refine Exists.intro (k) ⟨by omega,_,o8,?_⟩)|(refine Exists.intro (k - 1) ⟨by omega,_,hym,?_⟩)|exact⟨Tryz.call138⟩|refine cpe ng ?_|(refine Exists.intro (k+1,out++[x]) ⟨⟨by omega,by simp;omega,_,hnext,by rw [← a8];simp⟩,by simp only;omega,?_⟩)|exact absurd ⟨by assumption,by assumption⟩ hb|exact cSd|apply qb []|refine exr ?_|refine qi ?_)
     all_goals first|(simp [SV.evs,SV.ev];done)|(simp [SV.evs];omega)
  ·have i6:k=its.length:=by omega
   subst i6;rw [List.drop_length,kp,List.append_nil] at a8;rw [← a8];apply qd [];repeat' (first|apply And.intro|(intro h;try exact cDd)|exact cSd|apply qb []|refine exr ?_|refine qi ?_)
theorem zey (its:List za) (st:List AObj) (hl:its.length≤4000000) (hr:(vr its).length≤1000000000000):qn E 92 [ww its] st fun r st'=>r=Sv (vr its)∧st'=st:=by
 refine zb (qt _) (qr Tryz.func92 rfl (Nat.le_of_ble_eq_true rfl) ?_);have o7:(its.map v6).length=its.length:=by simp
 repeat' (first|(apply qfu;exact rfl)|apply qm|apply q9|apply qe|apply qf|apply qj|apply qh|(apply jl;(iterate 4 exact rfl)))
 refine qeb its (fun pre s=>∃ q,(q = .v (.pointer none)∨q = .bx (st.length+0) 0 0)∧StE [(3,.bx (st.length+0) 0 0),(6,ww its),(7,Iv its.length),(8,Iv pre.length)] st [bldO 0 q (vr pre) (st.length+1),.tip (vr pre).length 1 5] s) ⟨_,.inl rfl,qhs ⟨rfl,rfl,congrArg (fun n:Nat=>Iv (n:Int)) o7,rfl,trivial⟩ rfl⟩ ?_ ?_
 ·rintro _ ⟨q,hq,t,ext,rfl⟩
  repeat' (first|apply qm|apply qe|apply qf|apply qh|(apply qy;(iterate 3 exact rfl))|(apply qc;exact rfl;apply xh;exact cAo)|apply vc|apply qu|(refine qk Tryz.call104 (qfv st _ _ _ _ 0 1 0 _ _ rfl rfl rfl) ?_))
  exact qo rfl (zi rfl) ⟨rfl,qcg _ _ _ _⟩
 ·rintro pre x rest _ tv ⟨q,hq,t,ext,rfl⟩
  have d5:its.length=pre.length+(rest.length+1):=by rw [tv];simp
  have e9:(its.map v6)[pre.length]? = some (v6 x):=by rw [tv];simp
  have lv:(vr pre).length+x.raw.length≤1000000000000:=by
   have e:x::rest=[x]++rest:=rfl;rw [tv,qei,e,qei,qej] at hr;simp only [List.length_append] at hr;omega
  repeat' (first|apply qm|apply q9|apply qe|apply qf|(apply qy;(iterate 3 exact rfl))|(apply qc;exact rfl;apply wg;exact cAo)|(apply jy;exact rfl;exact rfl)|(apply zk;(iterate 3 exact rfl))|(apply js;(iterate 3 exact rfl))|(apply j5;(iterate 5 exact rfl))|(apply z8;(iterate 11 exact rfl))|apply qx|(apply kh (n:=pre.length);(iterate 5 exact rfl);exact e9))
  refine qk Tryz.call101 (qg4 st _ _ _ _ 0 1 0 _ _ _ rfl rfl ?_ ?_ rfl) ?_;(exact hq);(omega);repeat' (first|apply qe|apply qf|apply qj|(apply z7;exact rfl;exact rfl;exact zn (by omega) (by omega)))
  refine⟨_,.inr rfl,qe8 ⟨rfl,rfl,rfl,?_,trivial⟩ ?_⟩
  ·rw [qfp pre x];rfl
  ·rw [qei,qej];rfl
theorem zbw (its:List za) (st:List AObj) (hB:ItsB its) (hr:(vr (qae its)).length≤1000000000000):qn E 50 [ww its] st fun r st'=>r=Sv (vr (qae its))∧st'=st:=by
 refine zx [.a (ww its)] (qt _) Tryz.func50 rfl rfl (fun _=>rfl) rfl fun S0=>?_;have h1:=fun st=>zbj its st hB;have hal:=que false its;have hln:=hB.len;have h2:=fun st=>zey (qae its) st (by unfold qae;omega) hr;apply qd [];repeat' (first|apply And.intro|(intro h;try exact cDd)|exact⟨Tryz.call93⟩|refine cpe h1 ?_|exact⟨Tryz.call92⟩|refine cpe h2 ?_|exact cSd|apply qb []|refine exr ?_|refine qi ?_)
theorem za7 (l:qq) (st:List AObj) (hB:ItsB (ja l)):qn E 51 [kf l] st fun r st'=>r=ww (ja l)∧st'=st:=by
 refine zx [.a (kf l)] (qfz _) Tryz.func51 rfl rfl (fun _=>rfl) rfl fun S0=>?_;have hln:=hB.len;have rx:(ja l).length=l.ents.length:=by simp [ja]
 apply qd [];repeat' (first|apply And.intro|(intro h;try exact cDd)|exact cSd|apply qb []|refine exr ?_|refine qi ?_)
 refine w7 (X:=Nat) (fun k=>⟨[(3,.tp 0),(12,.a (.sl 4 (l.ents.map entA) none)),(13,.i l.ents.length),(14,.i k)],[(0,some (.tip 3 98 (((ja l).take k).map v6)))],1⟩)
  (fun k=>k≤l.ents.length) (fun k=>l.ents.length - k) 0 (by omega) ?_ ?_
 ·skip
  repeat' (first|apply And.intro|(intro h;try exact cDd)|exact cSd|apply qb []|refine exr ?_|refine qi ?_)
  all_goals (simp;done)
 ·rintro k hk
  by_cases i6:k<l.ents.length
  ·have hx:l.ents[k]? = some l.ents[k]:=List.getElem?_eq_getElem i6
   have o8:(l.ents.map entA)[k]? = some (entA l.ents[k]):=by rw [List.getElem?_map,hx];rfl
   have hxi:(ja l)[k]? = some l.ents[k].x:=by unfold ja;rw [List.getElem?_map,hx];rfl
   have hxf:=hB.fld l.ents[k].x (List.mem_of_getElem? hxi);have bt:(ja l).take (k+1)=(ja l).take k++[l.ents[k].x]:=by rw [List.take_add_one,hxi];rfl
   have htl:(((ja l).take k).map v6).length≤k:=by simp;omega
   generalize l.ents[k]=e at hx o8 hxi hxf bt;have ng:=fun st=>qew e.x.fields st hxf;apply qd [];repeat' (first|apply And.intro|(intro h;try exact cDd)|(refine Exists.intro (k) ⟨by omega,_,o8,?_⟩)|exact⟨Tryz.call40⟩|refine cpe ng ?_|(refine Exists.intro (k+1) ⟨by omega,by omega,?_⟩)|exact cSd|apply qb []|refine exr ?_|refine qi ?_)
   all_goals first|(rw [bt];simp;done)|(simp [SV.evs];omega)
  ·have i6:k=l.ents.length:=by omega
   subst i6;have e:(ja l).take l.ents.length=ja l:=List.take_of_length_le (by omega);rw [e];apply qd [];repeat' (first|apply And.intro|(intro h;try exact cDd)|exact cSd|apply qb []|refine exr ?_|refine qi ?_)
theorem zed (l:qq) (st:List AObj) (hB:ItsB (ja l)) (hr:(qok l).length≤1000000000000):qn E 23 [kf l] st fun r st'=>r=Sv (qok l)∧st'=st:=by
 refine zx [.a (kf l)] (qt _) Tryz.func23 rfl rfl (fun _=>rfl) rfl fun S0=>?_;have h1:=fun st=>za7 l st hB;have h2:=fun st=>zbw (ja l) st hB hr;apply qd [];repeat' (first|apply And.intro|(intro h;try exact cDd)|exact⟨Tryz.call51⟩|refine cpe h1 ?_|exact⟨Tryz.call50⟩|refine cpe h2 ?_|exact cSd|apply qb []|refine exr ?_|refine qi ?_)
theorem qh1 (es:List EntV):∀ x∈es.map entA,x.cells.length=4:=fun x hx=>by
 obtain⟨e,_,rfl⟩:=List.mem_map.1 hx;rfl
theorem qcu (es:List EntV):(flat (es.map entA)).length=es.length * 4:=by
 rw [z6 (qh1 es),List.length_map]
theorem qgb (a b:List EntV):flat ((a++b).map entA)=flat (a.map entA)++flat (b.map entA):=by rw [List.map_append,xe]
theorem qdm (A B xs:List AV) {off:Nat} (h:A.length=off):zr (A++B) off xs=A++xs++B.drop xs.length:=by
 unfold zr;rw [← h,List.take_left,List.drop_append,List.drop_eq_nil_of_le (by omega)];simp
theorem qhk {cs xs:List AV} {off:Nat} (h:off+xs.length≤cs.length):(zr cs off xs).length=cs.length:=by
 unfold zr;simp;omega
theorem zgi (es:List EntV) (i:Nat) (hi:i<es.length) (hl:es.length<1000000) (st:List AObj) (c:AV) (hc:OwnS st 4 100 (es.map entA) c):qn E 225 [c,Iv i,Iv ((i:Int)+1)] st fun r st'=>OwnR 4 100 ((es.take i++es.drop (i+1)).map entA) st c r st':=by
 have o7:(es.map entA).length=es.length:=by simp
 rcases hc with⟨h0,_⟩ | ⟨o,ver,cap,pad,rfl,e2,e3,e4,e5,e6⟩
 ·rw [h0] at o7
  simp at o7;omega
 rw [o7] at e5 ⊢;have d9:=lt_of_getElem? e2;have p7:=qcu es
 have bc:flat (es.map entA)++pad=flat ((es.take i).map entA)++(flat ((es.drop i).map entA)++pad):=by
  rw [← List.append_assoc,← qgb,List.take_append_drop]
 have sk:(flat ((es.take i).map entA)).length=i * 4:=by rw [qcu,List.length_take,Nat.min_eq_left (by omega)]
 have sw:(flat ((es.drop (i+1)).map entA)).length=(es.length - (i+1)) * 4:=by rw [qcu,List.length_drop]
 obtain⟨B1,rf⟩:∃ B1,(flat ((es.drop i).map entA)++pad).drop (flat ((es.drop (i+1)).map entA)).length=B1:=⟨_,rfl⟩
 have gp:zr (flat (es.map entA)++pad) (i * 4) (flat ((es.drop (i+1)).map entA))=flat ((es.take i++es.drop (i+1)).map entA)++B1:=by
  rw [bc,qdm _ _ _ sk,qgb,rf]
 have gb:(flat ((es.take i++es.drop (i+1)).map entA)++B1).length=(cap+1) * 4:=by
  rw [← gp,qhk (by rw [e3,sw];omega),e3]
 have mb:(es.take i++es.drop (i+1)).length=es.length - 1:=by simp;omega
 -- what is appended
 obtain⟨q,hq⟩:∃ q,(if cap+1=i+1 then 0 else 0+(i+1) * 4)=q:=⟨_,rfl⟩
 have hqz:((flat (es.map entA)++pad).drop q).take ((es.length - (i+1)) * 4)=flat ((es.drop (i+1)).map entA)∧q+(es.length - (i+1)) * 4≤(flat (es.map entA)++pad).length:=by
  rw [e3];by_cases hci:cap+1=i+1
  ·have:es.length - (i+1)=0:=by omega
   rw [if_pos hci] at hq;rw [this,← hq,List.drop_eq_nil_of_le (by omega:es.length≤i+1)];exact⟨by simp [flat],by omega⟩
  ·rw [if_neg hci] at hq
   rw [← hq];refine⟨?_,by omega⟩
   have e:flat (es.map entA)++pad=flat ((es.take (i+1)).map entA)++(flat ((es.drop (i+1)).map entA)++pad):=by
    rw [← List.append_assoc,← qgb,List.take_append_drop]
   have e':(flat ((es.take (i+1)).map entA)).length=0+(i+1) * 4:=by rw [qcu,List.length_take,Nat.min_eq_left (by omega)];omega
   rw [e,← e',List.drop_left,← sw,List.take_left]
 have bd:SrcA st 4 (.os o ver q (es.length - (i+1)) (cap+1 - (i+1))) (es.length - (i+1)) (es.length - (i+1)) (flat ((es.drop (i+1)).map entA)):=by
  have:=SrcA.os (st:=st) (sz:=4) o ver q (es.length - (i+1)) (cap+1 - (i+1)) (es.length - (i+1)) _ _ e2 hqz.2 (by rw [hqz.1];exact qbu fun _=>rfl);rw [hqz.1] at this;exact this
 refine qr Tryz.func225 rfl (Nat.le_of_ble_eq_true rfl) ?_;rw [List.append_nil];repeat' (first|(refine zq (sz:=4) (i:=i) (j:=i+1) (m:=es.length) rfl rfl rfl ?_ ?_ ?_ ?_ ?_ ?_ ?_;exact⟨_,rfl⟩;exact⟨_,rfl⟩;exact⟨_,rfl⟩;omega;omega;omega)|apply qm|apply qe|apply qf|apply qj|apply qh|(apply qy;(iterate 3 exact rfl))|(apply qc;exact rfl;apply xh;exact cAo)|(apply jl;(iterate 4 exact rfl))|apply qx)
 refine qte (fun s=>StA [(0,.os o ver 0 (i+(es.length - (i+1))) (cap+1)),(7,Iv es.length)] (st.set o (.cells ver 100 (flat ((es.take i++es.drop (i+1)).map entA)++B1))) [] s) ?_ ?_
 ·refine qiw rfl rfl ?_
  (apply x4 0;exact rfl;kernel_rfl;kernel_rfl;kernel_rfl;exact rfl;exact yr)
  (apply x4 1;exact rfl;kernel_rfl;kernel_rfl;kernel_rfl;exact rfl;exact yr)
  (apply x4 3;exact rfl;kernel_rfl;kernel_rfl;kernel_rfl;exact rfl;exact yr)
  (apply x4 4;exact rfl;kernel_rfl;kernel_rfl;kernel_rfl;exact rfl;exact yr)
  refine wn [2,5] (by kernel_rfl) rfl ⟨⟨_,rfl,?_⟩,⟨_,rfl,?_⟩,trivial⟩
  ·(refine zq (sz:=4) (i:=0) (j:=i) (m:=cap+1) rfl rfl rfl ?_ ?_ ?_ ?_ ?_ ?_ ?_;exact rfl;exact⟨_,rfl⟩;exact rfl;omega;omega;omega)
   apply qf;refine wn [5] (by kernel_rfl) rfl ⟨⟨_,rfl,?_⟩,trivial⟩
   (refine zq (sz:=4) (i:=i+1) (j:=es.length) (m:=cap+1) rfl rfl rfl ?_ ?_ ?_ ?_ ?_ ?_ ?_;exact⟨_,rfl⟩;exact⟨rfl,rfl⟩;exact rfl;omega;omega;omega;rw [hq])
   apply qf;refine wn [6] (by kernel_rfl) rfl ⟨⟨_,rfl,?_⟩,trivial⟩
   (refine ql9 (bytes:=56) (o:=o) (ver:=ver) (n:=i) (cap:=cap+1) (m:=es.length - (i+1)) (cs:=flat (es.map entA)++pad) rfl rfl e2 bd rfl rfl ⟨⟨_,_,rfl,rfl,rfl,rfl,rfl⟩⟩ (by omega) e3 ?_;rw [gp])
   apply qf
   (apply x4 7;exact rfl;kernel_rfl;kernel_rfl;kernel_rfl;exact rfl;exact quk)
   refine qcd (by kernel_rfl) ?_;exact vk ⟨rfl,rfl,trivial⟩
  ·(refine zq (sz:=4) (i:=i+1) (j:=es.length) (m:=cap+1) rfl rfl rfl ?_ ?_ ?_ ?_ ?_ ?_ ?_;exact⟨_,rfl⟩;exact⟨rfl,rfl⟩;exact rfl;omega;omega;omega;rw [hq])
   apply qf;refine wn [2] (by kernel_rfl) rfl ⟨⟨_,rfl,?_⟩,trivial⟩
   (refine zq (sz:=4) (i:=0) (j:=i) (m:=cap+1) rfl rfl rfl ?_ ?_ ?_ ?_ ?_ ?_ ?_;exact rfl;exact⟨_,rfl⟩;exact rfl;omega;omega;omega)
   apply qf;refine wn [6] (by kernel_rfl) rfl ⟨⟨_,rfl,?_⟩,trivial⟩
   (refine ql9 (bytes:=56) (o:=o) (ver:=ver) (n:=i) (cap:=cap+1) (m:=es.length - (i+1)) (cs:=flat (es.map entA)++pad) rfl rfl e2 bd rfl rfl ⟨⟨_,_,rfl,rfl,rfl,rfl,rfl⟩⟩ (by omega) e3 ?_;rw [gp])
   apply qf
   (apply x4 7;exact rfl;kernel_rfl;kernel_rfl;kernel_rfl;exact rfl;exact quk)
   refine qcd (by kernel_rfl) ?_;exact vk ⟨rfl,rfl,trivial⟩
 ·rintro _ ⟨t,rfl⟩
  have cw:(st.set o (AObj.cells ver 100 (flat ((es.take i++es.drop (i+1)).map entA)++B1)))[o]? = some (.cells ver 100 (flat ((es.take i++es.drop (i+1)).map entA)++B1)):=jq e2
  have hqq:(if cap+1=i+(es.length - (i+1)) then 0 else 0+(i+(es.length - (i+1))) * 4)=(es.length - 1) * 4:=by
   rw [if_neg (by omega)];omega
  have rq:(flat ((es.take i++es.drop (i+1)).map entA)).length=(es.length - 1) * 4:=by rw [qcu,mb]
  repeat' (first|(refine zq (sz:=4) (i:=i+(es.length - (i+1))) (j:=es.length) (m:=cap+1) rfl rfl rfl ?_ ?_ ?_ ?_ ?_ ?_ ?_;exact⟨_,rfl⟩;exact⟨_,rfl⟩;exact rfl;omega;omega;omega;rw [hqq])|(refine qxd (sz:=4) (bytes:=56) rfl cw rfl ⟨⟨_,_,rfl,rfl,rfl,rfl,rfl⟩⟩ rfl (by rw [gb];omega) fun zs hz=>?_)|apply qm|apply qe|apply qf|apply qj|apply qh|(apply jl;(iterate 4 exact rfl))|apply qu)
  refine qo rfl (zi rfl) ?_
  show OwnR 4 100 _ st _ (.os o ver 0 (i+(es.length - (i+1))) (cap+1)) ((st.set o _).set o (.cells ver 100 (zr (flat ((es.take i++es.drop (i+1)).map entA)++B1) ((es.length - 1) * 4) zs)))
  rw [List.set_set,qdm _ _ _ rq,List.append_assoc];have hB1l:(es.length - 1) * 4+B1.length=(cap+1) * 4:=by rw [← rq,← List.length_append];exact gb
  have sn:zs.length=4:=by rw [hz];omega
  refine⟨.inr ⟨o,ver,cap,zs++B1.drop zs.length,?_,jq e2,?_,qh1 _,?_,e6⟩,by simp,fun j hj b9=>List.getElem?_set_ne fun e=>b9 (by rw [e];rfl),fun o' d7=>.inr d7⟩
  ·rw [List.length_map,mb]
   congr 1;omega
  ·rw [List.length_append,List.length_append,List.length_drop,rq,sn]
   omega
  ·rw [List.length_map,mb]
   omega
theorem zeu (e:EntV) (st:List AObj) (c:AV) (hnr:qb8 c):qn E 226 [c,Iv 0,.sl 4 [entA e] none] st fun r st'=>OwnR 4 100 [entA e] st c r st':=by
 refine qr Tryz.func226 rfl (Nat.le_of_ble_eq_true rfl) ?_;rw [List.append_nil];repeat' (first|(apply jl (n:=1);(iterate 4 exact rfl))|(refine qxh (sz:=4) rfl hnr.val rfl rfl ?_ ?_;exact⟨_,rfl⟩)|(apply jl;exact rfl;exact hnr.len;exact rfl;exact rfl)|(refine qhv (sz:=4) (ys:=[entA e]) (bytes:=56) hnr.val (fun _ _ h=>h) rfl rfl ⟨⟨_,_,rfl,rfl,rfl,rfl,rfl⟩⟩ rfl (by simp) (by simp [maxLen]) (by simp) fun cap pad q1 q2 q3 q4=>?_)|apply qm|apply qe|apply qf|apply qj|apply qh|(apply qy;(iterate 3 exact rfl))|(apply qc;exact rfl;apply wg;exact cAo)|(apply qc;exact rfl;apply xh;exact cAo)|apply qx|apply qu)
 refine qo rfl (zi rfl) ?_
 show OwnR 4 100 _ st c (.os st.length 0 0 _ (cap+1)) (st++[_])
 refine⟨.inr ⟨_,0,cap,pad,rfl,xc,q1,q2,q3,q4⟩,qfl,fun j hj _=>List.getElem?_append_left hj,fun o ho=>?_⟩;simp only [zm,Option.some.injEq] at ho;left;omega
theorem zev (es:List EntV) (e:EntV) (hl:es.length<1000000) (st:List AObj) (o ver cap:Nat) (pad:List AV) (e2:st[o]? = some (.cells ver 100 (flat (es.map entA)++pad))) (e3:(flat (es.map entA)++pad).length=(cap+1) * 4) (e5:es.length≤cap+1) (e6:cap+1≤maxLen) :
  qn E 226 [.os o ver 0 es.length (cap+1),Iv es.length,.sl 4 [entA e] none] st fun r st'=>OwnR 4 100 (es.map entA++[entA e]) st (.os o ver 0 es.length (cap+1)) r st':=by
 have o7:(es.map entA).length=es.length:=by simp
 have d9:=lt_of_getElem? e2
 have hV0:Vec 4 100 o (es.map entA) (.os o ver 0 es.length (cap+1)) (.cells ver 100 (flat (es.map entA)++pad)):=by
  have:=Vec.os (o:=o) (T:=100) (xs:=es.map entA) ver (cap+1) pad e3 (qh1 _) (by omega) e6;rw [o7] at this;exact this
 refine qr Tryz.func226 rfl (Nat.le_of_ble_eq_true rfl) ?_;rw [List.append_nil];repeat' (first|(apply jl (n:=1);(iterate 4 exact rfl))|(refine zq (sz:=4) (i:=es.length) (j:=es.length) (m:=cap+1) rfl rfl rfl ?_ ?_ ?_ ?_ ?_ ?_ ?_;exact⟨_,rfl⟩;exact⟨rfl,rfl⟩;exact rfl;omega;omega;omega)|(refine qv8 (sz:=4) (bytes:=56) (o:=o) (xs:=es.map entA) (ys:=[entA e]) rfl (fun _ _ h=>h) hV0 e2 rfl rfl ⟨⟨_,_,rfl,rfl,rfl,rfl,rfl⟩⟩ rfl (by simp [maxLen];omega) (by simp;omega) fun a' ob' hV=>?_)|apply qm|apply qe|apply qf|apply qj|apply qh|(apply qy;(iterate 3 exact rfl))|(apply qc;exact rfl;apply wg;exact cAo)|(apply qc;exact rfl;apply xh;exact cAo)|(apply jl;(iterate 4 exact rfl))|apply qx|apply qu)
 rcases zgo hV with⟨q,_,_⟩ | ⟨ver',cap',pad',rfl,rfl,q1,q2,q3,q4⟩
 ·simp at q
 ·obtain⟨cap',rfl⟩:∃ c,cap'=c+1:=⟨cap' - 1,by simp at q3;omega⟩
  refine qo rfl (zi rfl) ?_
  show OwnR 4 100 _ st _ (.os o ver' 0 _ (cap'+1)) (st.set o _)
  exact⟨.inr ⟨o,ver',cap',pad',rfl,jq e2,q1,q2,q3,q4⟩,by simp,fun j hj b9=>List.getElem?_set_ne fun e=>b9 (by rw [e];rfl),fun o' d7=>.inr d7⟩
theorem qzi (w:World) (a b:Addr) (la ca lb cb:Nat) (tA tB:TypeId) (kA kB:Nat) (h1:a.block≠b.block) (h2:w.shape? a.block=some (tA,kA)) (h3:w.shape? b.block=some (tB,kB)) (h4:kA≠0) (h5:w.frozen? b=false) (h6:w.frozen? { block:=b.block,off:=kB }=false) :
  (callFunc 263 #[.slice (some a) la ca,.slice (some b) lb cb]).run E.P w = .ok (.value (.bool false)) w:=by
 have hz:∀ w,(Go.sizeOf 100).run E.P w = .ok 4 w:=fun w=>(vg (agg:=true) rfl w).1
 rw [run_callFunc_extern (P:=E.P) Tryz.func263 (by kernel_rfl) (by kernel_rfl) (by kernel_rfl) (e:=Extern.SlicesOverlaps.overlaps #[142,142] #[4]) (by kernel_rfl),
  qqn w 142 4 100 rfl 4 hz a b la ca lb cb h1 tA tB kA kB h2 h3 h4 h5 h6]
 rfl
structure InsB (es:List EntV) (e:EntV) (i cap:Nat) (pad:List AV):Prop where
 t4:(flat ((es.take i).map entA)).length=i * 4
 d4:(flat ((es.drop i).map entA)).length=(es.length - i) * 4
 split:flat (es.map entA)++pad=flat ((es.take i).map entA)++(flat ((es.drop i).map entA)++pad)
 take:(flat (es.map entA)++pad).take (i * 4)=flat ((es.take i).map entA)
 drop:((flat (es.map entA)++pad).drop (0+i * 4)).take ((es.length - i) * 4)=flat ((es.drop i).map entA)
 new:flat ((es.take i++e::es.drop i).map entA)=flat ((es.take i).map entA)++flat [entA e]++flat ((es.drop i).map entA)
 nl:(es.take i++e::es.drop i).length=es.length+1
 src:∀ o ver L c' (S:List AObj),(flat (es.map entA)++pad).length=(cap+1) * 4→es.length≤cap+1→S[o]? = some (.cells ver 100 (flat (es.map entA)++pad))→SrcA S 4 (.os o ver (0+i * 4) L c') L (es.length - i) (flat ((es.drop i).map entA))
theorem insB (es:List EntV) (e:EntV) (i cap:Nat) (pad:List AV) (hi:i<es.length):InsB es e i cap pad:=by
 have sk:(flat ((es.take i).map entA)).length=i * 4:=by rw [qcu,List.length_take,Nat.min_eq_left (by omega)]
 have sw:(flat ((es.drop i).map entA)).length=(es.length - i) * 4:=by rw [qcu,List.length_drop]
 have bc:flat (es.map entA)++pad=flat ((es.take i).map entA)++(flat ((es.drop i).map entA)++pad):=by
  rw [← List.append_assoc,← qgb,List.take_append_drop]
 have hdrop:((flat (es.map entA)++pad).drop (0+i * 4)).take ((es.length - i) * 4)=flat ((es.drop i).map entA):=by rw [Nat.zero_add,bc,← sk,List.drop_left,← sw,List.take_left]
 refine⟨sk,sw,bc,by rw [bc,← sk,List.take_left],hdrop,?_,by simp;omega,fun o ver L c' S e3 e5 hS=>?_⟩
 ·rw [qgb]
  simp [flat]
 ·have:=SrcA.os (st:=S) (sz:=4) o ver (0+i * 4) L c' (es.length - i) _ _ hS (by rw [e3];omega) (by rw [hdrop];exact qbu fun _=>rfl)
  rw [hdrop] at this;exact this
set_option maxHeartbeats 4000000 in
theorem zex (es:List EntV) (e:EntV) (i:Nat) (hi:i<es.length) (hl:es.length<1000000) (st:List AObj) (o ver cap:Nat) (pad:List AV) (e2:st[o]? = some (.cells ver 100 (flat (es.map entA)++pad))) (e3:(flat (es.map entA)++pad).length=(cap+1) * 4) (e5:es.length+1≤cap+1) (e6:cap+1≤maxLen) :
  qn E 226 [.os o ver 0 es.length (cap+1),Iv i,.sl 4 [entA e] none] st fun r st'=>OwnR 4 100 ((es.take i++e::es.drop i).map entA) st (.os o ver 0 es.length (cap+1)) r st':=by
 have hI:=insB es e i cap pad hi;have d9:=lt_of_getElem? e2;have hfl1:(flat [entA e]).length=4:=rfl;have sk:=hI.t4;have sw:=hI.d4;have hi1:(if cap+1=i then 0 else 0+i * 4)=0+i * 4:=if_neg (by omega);have dt:(if cap+1=i+1 then 0 else 0+(i+1) * 4)=(i+1) * 4:=by rw [if_neg (by omega)];omega
 obtain⟨B1,rf⟩:∃ B1,(flat ((es.drop i).map entA)++pad).drop 4=B1:=⟨_,rfl⟩;obtain⟨A1,dp⟩:∃ A1,(flat ((es.drop i).map entA)++pad).take 4=A1:=⟨_,rfl⟩
 have hA1l:A1.length=4:=by
  rw [← dp,List.length_take,List.length_append,sw];omega
 obtain⟨X1,hX1⟩:∃ X1,flat ((es.take i).map entA)++A1++flat ((es.drop i).map entA)++B1.drop ((es.length - i) * 4)=X1:=⟨_,rfl⟩
 have mq:zr (flat (es.map entA)++pad) ((i+1) * 4) (flat ((es.drop i).map entA))=X1:=by
  have e1:flat (es.map entA)++pad=(flat ((es.take i).map entA)++A1)++B1:=by rw [hI.split,List.append_assoc,← dp,← rf,List.take_append_drop]
  rw [e1,qdm _ _ _ (by rw [List.length_append,sk,hA1l];omega),sw,hX1]
 have ld:zr X1 (0+i * 4) (flat [entA e])=flat ((es.take i++e::es.drop i).map entA)++B1.drop ((es.length - i) * 4):=by
  have e1:X1=flat ((es.take i).map entA)++(A1++(flat ((es.drop i).map entA)++B1.drop ((es.length - i) * 4))):=by rw [← hX1];simp
  rw [e1,qdm _ _ _ (by rw [sk];omega),hfl1,List.drop_append_of_le_length (by omega),List.drop_eq_nil_of_le (by omega:A1.length≤4),hI.new];simp
 have hsl1:X1.length=(cap+1) * 4:=by
  rw [← mq,qhk (by rw [e3,sw];omega),e3]
 have hsl2:(flat ((es.take i++e::es.drop i).map entA)++B1.drop ((es.length - i) * 4)).length=(cap+1) * 4:=by
  rw [← ld,qhk (by rw [hsl1,hfl1];omega),hsl1]
 have bd:=hI.src o ver (es.length+1 - i) (cap+1 - i) st e3 (by omega) e2;have sc:=hI.nl;generalize hXn:flat ((es.take i++e::es.drop i).map entA)++B1.drop ((es.length - i) * 4)=Xn at ld hsl2;clear hX1 rf dp hI sk sw;generalize hdz:flat ((es.drop i).map entA)=dz at mq bd;refine qr Tryz.func226 rfl (Nat.le_of_ble_eq_true rfl) ?_;rw [List.append_nil];generalize flat (es.map entA)++pad=X0 at e2 e3 mq;repeat' (first|apply qm|apply qe|apply qf|apply qj|apply qh)
 refine zq (o:=o) (ver:=ver) (off:=0) (len:=es.length) (cap:=cap+1) (sz:=4) (i:=i) (j:=es.length) (m:=cap+1) rfl rfl rfl ?_ ?_ ?_ (by omega) (by omega) (by omega) ?_
 ·exact⟨_,rfl⟩
 ·exact⟨rfl,rfl⟩
 ·exact rfl
 repeat' (first|(apply jl (n:=1);(iterate 4 exact rfl))|apply qm|apply qe|apply qf|apply qj|apply qh|(apply qy;(iterate 3 exact rfl))|(apply qc;exact rfl;apply xh;exact cAo)|(apply jl;(iterate 4 exact rfl))|(apply z7;exact rfl;exact rfl;exact zn (by omega) (by omega))|apply qx)
 refine qq9 rfl rfl rfl ?_;repeat' (first|apply qm|apply qe|apply qf|apply qj|(apply qy;(iterate 3 exact rfl))|(apply qc;exact rfl;apply xh;exact cAo)|(apply z7;exact rfl;exact rfl;exact zn (by omega) (by omega))|apply qx)
 refine zq (o:=o) (ver:=ver) (off:=0) (len:=es.length) (cap:=cap+1) (sz:=4) (i:=0) (j:=es.length+1) (m:=cap+1) rfl rfl rfl ?_ ?_ ?_ (by omega) (by omega) (by omega) ?_
 ·exact rfl
 ·exact⟨_,rfl⟩
 ·exact rfl
 repeat' (first|apply qm|apply qe|apply qf|apply qj|apply qh|(apply z7;exact rfl;exact rfl;exact zn (by omega) (by omega)))
 refine zq (o:=o) (ver:=ver) (off:=0) (len:=es.length+1) (cap:=cap+1) (sz:=4) (i:=i+1) (j:=es.length+1) (m:=cap+1) rfl rfl rfl ?_ ?_ ?_ (by omega) (by omega) (by omega) ?_
 ·exact⟨_,rfl⟩
 ·exact⟨rfl,rfl⟩
 ·exact rfl
 rw [dt];repeat' (first|(apply zaf;first|apply qm|apply q9|apply qe|(apply qc;exact rfl;apply wg;exact cAo)|(apply qc;exact rfl;apply xh;exact cAo)|(apply qc;exact rfl;apply qkx;exact cRa)|(apply qc;exact rfl;apply qn9;exact cRa)|(apply qc;exact rfl;apply cd_n <;> intro h)|(apply qc;exact rfl;apply cd_t;exact cRa)|(apply qc;exact rfl;apply cd_f;exact cRa)|(apply qc;exact rfl;apply cd_d <;> intro h)|(apply qc;exact rfl;apply cd_s <;> intro h)|apply qx|apply vc|apply qu)|(apply q4f;first|(apply ze;(iterate 4 exact rfl))|(apply qd1;(iterate 4 exact rfl)))|(apply zdr;first|(apply qb2;exact cAo)|(apply qcw;exact cAo)|(apply qcx;exact cAo)|(apply qee;exact cAo)|(apply qu6;exact cRa)|(apply qax;exact cRa)|(apply qc9;exact cRa)|(apply qr7;exact cRa)|(apply qk5 <;> intro h)|(apply qb3;exact cRa)|(apply qfj;exact cRa)|(apply qbs;exact cRa)|(apply qbr;exact cRa)|(apply xx <;> intro h)|(apply qh9 <;> intro h))|(apply zdq;first|apply qj5|(apply zc0;(iterate 4 exact rfl))|(apply zfd;exact rfl;exact rfl;exact zn (by omega) (by omega))|(apply zc2;(iterate 4 exact rfl);exact cAs;exact cAs)|(apply q0s;(iterate 5 exact rfl))|(apply quj;exact rfl;exact rfl;exact cOs)|(apply qg1;(iterate 3 exact rfl))|(apply qou;(iterate 5 exact rfl))|(apply qri;(iterate 4 exact rfl))|(apply qrh;(iterate 3 exact rfl))|(apply q55;(iterate 3 exact rfl);exact cAs)|(apply q12;exact rfl;exact rfl)|(apply qxk;exact rfl;exact rfl)|(apply qxl;(iterate 3 exact rfl);omega)|(apply qui;(iterate 3 exact rfl))|apply qhn|apply quh|(apply zfb;exact rfl;exact rfl;exact zn (by omega) (by omega))|(apply zc1;(iterate 3 exact rfl))|(apply q13;(iterate 3 exact rfl);exact cAs)|(apply q11;(iterate 3 exact rfl);exact cAs)|(apply qrg;exact rfl;exact rfl))|(apply q4e;first|(apply qy;(iterate 3 exact rfl))|(apply jv;(iterate 3 exact rfl))|(apply vh;exact rfl;exact rfl;exact cOs)|(apply z7;exact rfl;exact rfl;exact zn (by omega) (by omega))|(apply qa6;exact rfl;exact rfl;exact zn (by omega) (by omega))|(apply wr;exact rfl;exact rfl)|(apply v7;exact rfl;exact rfl)|(apply qam;exact rfl;exact rfl)|(apply qdw;exact rfl;exact rfl)|(apply qan;(iterate 3 exact rfl))|(apply qmb;(iterate 3 exact rfl))|(apply qg0;exact rfl;exact rfl;(first|exact va _|exact rfl);first|exact va _|exact rfl)|(apply qkn;exact rfl;exact rfl;(first|exact va _|exact rfl);first|exact va _|exact rfl)|(apply q53;exact rfl;exact rfl;(first|exact va _|exact rfl);first|exact va _|exact rfl)|(apply qer;(iterate 3 exact rfl))|(apply qgy;(iterate 3 exact rfl)))|(apply q6z;first|(apply js;(iterate 3 exact rfl))|(apply qma;(iterate 5 exact rfl))|(apply j5;(iterate 5 exact rfl)))|(apply q60;first|(apply qrd;exact rfl)|(apply jb;exact rfl)|(apply qhx;exact rfl))|(apply q4g;first|(apply qmo;(iterate 3 exact rfl);exact cAs)|(apply quc;(iterate 3 exact rfl);exact cAs)|(apply qud;(iterate 4 exact rfl);exact cAs;exact cAs)|(apply qj4;(iterate 4 exact rfl);(first|assumption|omega|exact Nat.succ_le_succ (Nat.zero_le _)|(simp;omega));exact rfl))|(apply q6y;first|(apply wl;(iterate 3 exact rfl))|(apply jl;(iterate 4 exact rfl)))|(apply qtk;first|(apply zk;(iterate 3 exact rfl))|(apply yz;(iterate 4 exact rfl)))|(apply q4h;first|(apply qfd;(iterate 11 exact rfl))|(apply z8;(iterate 11 exact rfl)))|(apply zag;first|apply qf|apply qj|apply qh|(apply zh;exact rfl;exact rfl)|(apply qp;exact rfl;apply qcm;exact cAo)|(apply qp;exact rfl;apply qdi;exact cAo)|(apply qp;exact rfl;apply qlr;exact cRa)|(apply qp;exact rfl;apply qf2;exact cRa)|(apply qp;exact rfl;apply pk_t;exact cRa)|(apply qp;exact rfl;apply pk_f;exact cRa)|(apply vn;exact rfl;exact rfl)|apply qgo|(apply jy;exact rfl;exact rfl)|(apply qcq;(iterate 4 exact rfl))|(apply qko;(iterate 3 exact rfl))|(apply qps;(iterate 3 exact rfl);exact cAs)|(apply yl;(iterate 3 exact rfl))|(apply xw;(iterate 9 exact rfl))|(apply wt;exact rfl;exact rfl)|(apply qjq;(iterate 4 exact rfl);(first|assumption|omega|decide);exact rfl)|(apply qck;(iterate 4 exact rfl);first|assumption|omega|decide)))
 refine qwa (xs:=[entA e]) (o:=o) (ver:=ver) rfl rfl e2 (by simp [flat,AV.cells]) qzi ?_;repeat' (first|apply qm|apply qf|(apply jb;exact rfl)|(apply qc;exact rfl;apply qkx;exact cRa))
 refine qec [(0,.os o ver 0 (es.length+1) (cap+1)),(1,Iv i),(2,.sl 4 [entA e] none),(7,Iv 1)] st [] ⟨rfl,rfl,rfl,rfl,trivial⟩ rfl rfl fun t=>?_;refine qte (fun s=>StA [(0,.os o ver 0 (es.length+1) (cap+1)),(1,Iv i),(2,.sl 4 [entA e] none)] (st.set o (.cells ver 100 X1)) [] s) ?_ ?_
 ·refine qiw rfl rfl ?_
  (apply x4 0;exact rfl;kernel_rfl;kernel_rfl;kernel_rfl;exact rfl;exact yr)
  (apply x4 1;exact rfl;kernel_rfl;kernel_rfl;kernel_rfl;exact rfl;exact yr)
  (apply x4 2;exact rfl;kernel_rfl;kernel_rfl;kernel_rfl;exact rfl;exact yr)
  (apply x4 5;exact rfl;kernel_rfl;kernel_rfl;kernel_rfl;exact rfl;exact yr)
  (apply x4 6;exact rfl;kernel_rfl;kernel_rfl;kernel_rfl;exact rfl;exact yr)
  refine wn [3,7] (by kernel_rfl) rfl ⟨⟨_,rfl,?_⟩,⟨_,rfl,?_⟩,trivial⟩
  ·(apply z7;exact rfl;exact rfl;exact zn (by omega) (by omega))
   apply qf;refine wn [4,7] (by kernel_rfl) rfl ⟨⟨_,rfl,?_⟩,⟨_,rfl,?_⟩,trivial⟩
   ·(refine zq (o:=o) (ver:=ver) (off:=0) (len:=es.length+1) (cap:=cap+1) (sz:=4) (i:=i+1) (j:=es.length+1) (m:=cap+1) rfl rfl rfl ?_ ?_ ?_ (by omega) (by omega) (by omega) ?_;exact⟨_,rfl⟩;exact⟨rfl,rfl⟩;exact rfl;rw [dt])
    apply qf;refine wn [7] (by kernel_rfl) rfl ⟨⟨_,rfl,?_⟩,trivial⟩
    (refine zq (o:=o) (ver:=ver) (off:=0) (len:=es.length+1) (cap:=cap+1) (sz:=4) (i:=i) (j:=es.length+1) (m:=cap+1) rfl rfl rfl ?_ ?_ ?_ (by omega) (by omega) (by omega) ?_;exact⟨_,rfl⟩;exact⟨rfl,rfl⟩;exact rfl;rw [hi1])
    apply qf;refine wn [8] (by kernel_rfl) rfl ⟨⟨_,rfl,?_⟩,trivial⟩
    (refine y7 (o:=o) (ver:=ver) (off:=(i+1) * 4) (sz:=4) (bytes:=56) (m:=es.length - i) rfl rfl e2 bd ?_ rfl ⟨⟨_,_,rfl,rfl,rfl,rfl,rfl⟩⟩ ?_ ?_;(show min _ _=_;omega);(rw [e3];omega);rw [mq])
    apply qf;refine qcd (by kernel_rfl) ?_;exact vk ⟨rfl,rfl,rfl,trivial⟩
   ·(refine zq (o:=o) (ver:=ver) (off:=0) (len:=es.length+1) (cap:=cap+1) (sz:=4) (i:=i) (j:=es.length+1) (m:=cap+1) rfl rfl rfl ?_ ?_ ?_ (by omega) (by omega) (by omega) ?_;exact⟨_,rfl⟩;exact⟨rfl,rfl⟩;exact rfl;rw [hi1])
    apply qf;refine wn [4] (by kernel_rfl) rfl ⟨⟨_,rfl,?_⟩,trivial⟩
    (refine zq (o:=o) (ver:=ver) (off:=0) (len:=es.length+1) (cap:=cap+1) (sz:=4) (i:=i+1) (j:=es.length+1) (m:=cap+1) rfl rfl rfl ?_ ?_ ?_ (by omega) (by omega) (by omega) ?_;exact⟨_,rfl⟩;exact⟨rfl,rfl⟩;exact rfl;rw [dt])
    apply qf;refine wn [8] (by kernel_rfl) rfl ⟨⟨_,rfl,?_⟩,trivial⟩
    (refine y7 (o:=o) (ver:=ver) (off:=(i+1) * 4) (sz:=4) (bytes:=56) (m:=es.length - i) rfl rfl e2 bd ?_ rfl ⟨⟨_,_,rfl,rfl,rfl,rfl,rfl⟩⟩ ?_ ?_;(show min _ _=_;omega);(rw [e3];omega);rw [mq])
    apply qf;refine qcd (by kernel_rfl) ?_;exact vk ⟨rfl,rfl,rfl,trivial⟩
  ·(refine zq (o:=o) (ver:=ver) (off:=0) (len:=es.length+1) (cap:=cap+1) (sz:=4) (i:=i) (j:=es.length+1) (m:=cap+1) rfl rfl rfl ?_ ?_ ?_ (by omega) (by omega) (by omega) ?_;exact⟨_,rfl⟩;exact⟨rfl,rfl⟩;exact rfl;rw [hi1])
   apply qf;refine wn [3] (by kernel_rfl) rfl ⟨⟨_,rfl,?_⟩,trivial⟩
   (apply z7;exact rfl;exact rfl;exact zn (by omega) (by omega))
   apply qf;refine wn [4] (by kernel_rfl) rfl ⟨⟨_,rfl,?_⟩,trivial⟩
   (refine zq (o:=o) (ver:=ver) (off:=0) (len:=es.length+1) (cap:=cap+1) (sz:=4) (i:=i+1) (j:=es.length+1) (m:=cap+1) rfl rfl rfl ?_ ?_ ?_ (by omega) (by omega) (by omega) ?_;exact⟨_,rfl⟩;exact⟨rfl,rfl⟩;exact rfl;rw [dt])
   apply qf;refine wn [8] (by kernel_rfl) rfl ⟨⟨_,rfl,?_⟩,trivial⟩
   (refine y7 (o:=o) (ver:=ver) (off:=(i+1) * 4) (sz:=4) (bytes:=56) (m:=es.length - i) rfl rfl e2 bd ?_ rfl ⟨⟨_,_,rfl,rfl,rfl,rfl,rfl⟩⟩ ?_ ?_;(show min _ _=_;omega);(rw [e3];omega);rw [mq])
   apply qf;refine qcd (by kernel_rfl) ?_;exact vk ⟨rfl,rfl,rfl,trivial⟩
 ·rintro _ ⟨t,rfl⟩
  have cw:(st.set o (AObj.cells ver 100 X1))[o]? = some (.cells ver 100 X1):=jq e2;repeat' (first|apply qm|apply qe|apply qj)
  refine zq (o:=o) (ver:=ver) (off:=0) (len:=es.length+1) (cap:=cap+1) (sz:=4) (i:=i) (j:=es.length+1) (m:=cap+1) rfl rfl rfl ?_ ?_ ?_ (by omega) (by omega) (by omega) ?_
  ·exact⟨_,rfl⟩
  ·exact⟨rfl,rfl⟩
  ·exact rfl
  rw [hi1];repeat' (first|apply qj)
  refine y7 (o:=o) (ver:=ver) (off:=0+i * 4) (sz:=4) (bytes:=56) (L:=1) (m:=1) rfl rfl cw (.sl [entA e] none rfl) ?_ rfl ⟨⟨_,_,rfl,rfl,rfl,rfl,rfl⟩⟩ ?_ ?_
  ·show min _ _=_
   omega
  ·rw [hsl1]
   omega
  rw [ld];repeat' (first|apply qm|apply qe|apply qf|apply qj|apply qh|apply qu)
  refine qo rfl (zi rfl) ?_
  show OwnR 4 100 _ st _ (.os o ver 0 (es.length+1) (cap+1)) ((st.set o _).set o (.cells ver 100 Xn))
  rw [List.set_set,← hXn];rw [← hXn] at hsl2;exact⟨.inr ⟨o,ver,cap,_,by rw [List.length_map,sc],jq e2,hsl2,qh1 _,by rw [List.length_map,sc];omega,e6⟩,by simp,fun j hj b9=>List.getElem?_set_ne fun e=>b9 (by rw [e];rfl),fun o' d7=>.inr d7⟩
set_option maxHeartbeats 4000000 in
theorem zew (es:List EntV) (e:EntV) (i:Nat) (hi:i<es.length) (hl:es.length<1000000) (st:List AObj) (o ver cap:Nat) (pad:List AV) (e2:st[o]? = some (.cells ver 100 (flat (es.map entA)++pad))) (e3:(flat (es.map entA)++pad).length=(cap+1) * 4) (e5:es.length=cap+1) (e6:cap+1≤maxLen) :
  qn E 226 [.os o ver 0 es.length (cap+1),Iv i,.sl 4 [entA e] none] st fun r st'=>OwnR 4 100 ((es.take i++e::es.drop i).map entA) st (.os o ver 0 es.length (cap+1)) r st':=by
 have hI:=insB es e i cap pad hi;have d9:=lt_of_getElem? e2;have hfl1:(flat [entA e]).length=4:=rfl;have sk:=hI.t4;have sw:=hI.d4;have sm:=hI.take;have hi1:(if cap+1=i then 0 else 0+i * 4)=0+i * 4:=if_neg (by omega);have bd:=fun S=>hI.src o ver (es.length - i) (cap+1 - i) S e3 (by omega);have sc:=hI.nl;have p8:=hI.new;have hk9:Iv ((es.length:Int)+1 - i)=Iv ((es.length+1 - i:Nat):Int):=congrArg (fun z:Int=>Iv z) (by omega);have hkk:i+(es.length+1 - i)=es.length+1:=by omega
 generalize flat ((es.drop i).map entA)=dz at bd sw p8;refine qr Tryz.func226 rfl (Nat.le_of_ble_eq_true rfl) ?_;rw [List.append_nil];generalize flat (es.map entA)++pad=X0 at e2 e3 sm bd;repeat' (first|apply qm|apply qe|apply qf|apply qj|apply qh)
 refine zq (o:=o) (ver:=ver) (off:=0) (len:=es.length) (cap:=cap+1) (sz:=4) (i:=i) (j:=es.length) (m:=cap+1) rfl rfl rfl ?_ ?_ ?_ (by omega) (by omega) (by omega) ?_
 ·exact⟨_,rfl⟩
 ·exact⟨rfl,rfl⟩
 ·exact rfl
 repeat' (first|(apply jl (n:=1);(iterate 4 exact rfl))|apply qm|apply qe|apply qf|apply qj|apply qh|(apply qy;(iterate 3 exact rfl))|(apply qc;exact rfl;apply xh;exact cAo)|(apply jl;(iterate 4 exact rfl))|(apply z7;exact rfl;exact rfl;exact zn (by omega) (by omega))|apply qx)
 refine qq9 rfl rfl rfl ?_;refine qre [(0,.os o ver 0 es.length (cap+1)),(1,Iv i),(2,.sl 4 [entA e] none),(7,Iv 1),(8,Iv es.length),(28,Iv ((es.length:Int)+1)),(30,Iv ((cap+1:Nat):Int))] st [] ⟨rfl,rfl,rfl,rfl,rfl,rfl,rfl,trivial⟩ rfl rfl fun t=>?_;repeat' (first|apply qm|apply qe|apply qf|apply qj|(apply qy;(iterate 3 exact rfl))|(apply qc;exact rfl;apply wg;exact cAo))
 refine zq (o:=o) (ver:=ver) (off:=0) (len:=es.length) (cap:=cap+1) (sz:=4) (i:=0) (j:=i) (m:=cap+1) rfl rfl rfl ?_ ?_ ?_ (by omega) (by omega) (by omega) ?_
 ·exact rfl
 ·exact⟨_,rfl⟩
 ·exact rfl
 repeat' (first|apply qj|(apply z7;exact rfl;exact rfl;exact zn (by omega) (by omega))|(apply qa6;exact rfl;exact rfl;exact zn (by omega) (by omega)))
 refine qpq (sz:=4) (bytes:=56) (o:=o) (ver:=ver) (n:=i) (cap:=cap+1) (k:=es.length+1 - i) (cs:=X0) rfl hk9 e2 rfl rfl ⟨⟨_,_,rfl,rfl,rfl,rfl,rfl⟩⟩ (by omega) (by omega) (by omega) (by rw [e3];omega) (by simp only [maxLen];omega) (by omega) fun cap' zs z1 z2 z3=>?_;rw [hkk,sm];refine qre [(0,.os o ver 0 es.length (cap+1)),(1,Iv i),(2,.sl 4 [entA e] none),(7,Iv 1),(40,.os st.length 0 0 (es.length+1) cap')] (st++[.cells 0 100 (flat ((es.take i).map entA)++zs)]) [] ⟨rfl,rfl,rfl,rfl,rfl,trivial⟩ rfl rfl fun t=>?_;obtain⟨cap',rfl⟩:∃ c,cap'=c+1:=⟨cap' - 1,by omega⟩;have hi3:(if cap'+1=i then 0 else 0+i * 4)=0+i * 4:=if_neg (by omega);have hi4:(if cap'+1=i+1 then 0 else 0+(i+1) * 4)=(i+1) * 4:=by rw [if_neg (by omega)];omega
 have mq:zr (flat ((es.take i).map entA)++zs) (0+i * 4) (flat [entA e])=(flat ((es.take i).map entA)++flat [entA e])++zs.drop 4:=qdm _ _ _ (by rw [sk];omega)
 have ld:zr ((flat ((es.take i).map entA)++flat [entA e])++zs.drop 4) ((i+1) * 4) dz=flat ((es.take i++e::es.drop i).map entA)++(zs.drop 4).drop dz.length:=by
  rw [qdm _ _ _ (by rw [List.length_append,sk,hfl1];omega),p8]
 have u0:((flat ((es.take i).map entA)++flat [entA e])++zs.drop 4).length=(cap'+1) * 4:=by
  simp only [List.length_append,List.length_drop,sk,hfl1,z1];omega
 have lq:(flat ((es.take i++e::es.drop i).map entA)++(zs.drop 4).drop dz.length).length=(cap'+1) * 4:=by
  rw [← ld,qhk (by rw [u0,sw];omega),u0]
 have hl0:(flat ((es.take i).map entA)++zs).length=(cap'+1) * 4:=by
  rw [List.length_append,sk,z1];omega
 repeat' (first|apply qm|apply qe|apply qf|apply qj|apply qh)
 refine zq (o:=st.length) (ver:=0) (off:=0) (len:=es.length+1) (cap:=cap'+1) (sz:=4) (i:=i) (j:=es.length+1) (m:=cap'+1) rfl rfl rfl ?_ ?_ ?_ (by omega) (by omega) (by omega) ?_
 ·exact⟨_,rfl⟩
 ·exact⟨rfl,rfl⟩
 ·exact rfl
 rw [hi3];repeat' (first|apply qj)
 refine y7 (o:=st.length) (ver:=0) (off:=0+i * 4) (sz:=4) (bytes:=56) (L:=1) (m:=1) rfl rfl xc (.sl [entA e] none rfl) ?_ rfl ⟨⟨_,_,rfl,rfl,rfl,rfl,rfl⟩⟩ ?_ ?_
 ·show min _ _=_
  omega
 ·rw [hl0]
  omega
 rw [mq];generalize hX1:(flat ((es.take i).map entA)++flat [entA e])++zs.drop 4=X1 at ld u0;have hbo:(st++[AObj.cells 0 100 (flat ((es.take i).map entA)++zs)])[st.length]? = some (.cells 0 100 (flat ((es.take i).map entA)++zs)):=xc;have hS1n:((st++[AObj.cells 0 100 (flat ((es.take i).map entA)++zs)]).set st.length (.cells 0 100 X1))[st.length]? = some (.cells 0 100 X1):=jq hbo
 have hS1o:((st++[AObj.cells 0 100 (flat ((es.take i).map entA)++zs)]).set st.length (.cells 0 100 X1))[o]? = some (.cells ver 100 X0):=by
  rw [List.getElem?_set_ne (by omega),List.getElem?_append_left d9];exact e2
 have hS1j:∀ j,j<st.length→((st++[AObj.cells 0 100 (flat ((es.take i).map entA)++zs)]).set st.length (.cells 0 100 X1))[j]? = st[j]?:=fun j hj=>by
  rw [List.getElem?_set_ne (by omega),List.getElem?_append_left hj]
 have hS1l:((st++[AObj.cells 0 100 (flat ((es.take i).map entA)++zs)]).set st.length (.cells 0 100 X1)).length=st.length+1:=by simp
 repeat' (first|apply qm|apply qf)
 refine qec [(0,.os o ver 0 es.length (cap+1)),(1,Iv i),(7,Iv 1),(9,.os st.length 0 0 (es.length+1) (cap'+1))] ((st++[AObj.cells 0 100 (flat ((es.take i).map entA)++zs)]).set st.length (.cells 0 100 X1)) [] ⟨rfl,rfl,rfl,rfl,trivial⟩ rfl rfl fun t=>?_;generalize (st++[AObj.cells 0 100 (flat ((es.take i).map entA)++zs)]).set st.length (.cells 0 100 X1)=S1 at hS1n hS1o hS1j hS1l;refine qte (fun s=>StA [(9,.os st.length 0 0 (es.length+1) (cap'+1))] (S1.set st.length (.cells 0 100 (flat ((es.take i++e::es.drop i).map entA)++(zs.drop 4).drop dz.length))) [] s) ?_ ?_
 ·refine qiw rfl rfl ?_
  (apply x4 0;exact rfl;kernel_rfl;kernel_rfl;kernel_rfl;exact rfl;exact yr)
  (apply x4 1;exact rfl;kernel_rfl;kernel_rfl;kernel_rfl;exact rfl;exact yr)
  (apply x4 2;exact rfl;kernel_rfl;kernel_rfl;kernel_rfl;exact rfl;exact yr)
  (apply x4 5;exact rfl;kernel_rfl;kernel_rfl;kernel_rfl;exact rfl;exact yr)
  (apply x4 6;exact rfl;kernel_rfl;kernel_rfl;kernel_rfl;exact rfl;exact yr)
  refine wn [3,7] (by kernel_rfl) rfl ⟨⟨_,rfl,?_⟩,⟨_,rfl,?_⟩,trivial⟩
  ·(apply z7;exact rfl;exact rfl;exact zn (by omega) (by omega))
   apply qf;refine wn [4,7] (by kernel_rfl) rfl ⟨⟨_,rfl,?_⟩,⟨_,rfl,?_⟩,trivial⟩
   ·(refine zq (o:=st.length) (ver:=0) (off:=0) (len:=es.length+1) (cap:=cap'+1) (sz:=4) (i:=i+1) (j:=es.length+1) (m:=cap'+1) rfl rfl rfl ?_ ?_ ?_ (by omega) (by omega) (by omega) ?_;exact⟨_,rfl⟩;exact⟨rfl,rfl⟩;exact rfl;rw [hi4])
    apply qf;refine wn [7] (by kernel_rfl) rfl ⟨⟨_,rfl,?_⟩,trivial⟩
    (refine zq (o:=o) (ver:=ver) (off:=0) (len:=es.length) (cap:=cap+1) (sz:=4) (i:=i) (j:=es.length) (m:=cap+1) rfl rfl rfl ?_ ?_ ?_ (by omega) (by omega) (by omega) ?_;exact⟨_,rfl⟩;exact⟨rfl,rfl⟩;exact rfl;rw [hi1])
    apply qf;refine wn [8] (by kernel_rfl) rfl ⟨⟨_,rfl,?_⟩,trivial⟩
    (refine y7 (o:=st.length) (ver:=0) (off:=(i+1) * 4) (sz:=4) (bytes:=56) (m:=es.length - i) rfl rfl hS1n (bd S1 hS1o) ?_ rfl ⟨⟨_,_,rfl,rfl,rfl,rfl,rfl⟩⟩ ?_ ?_;(show min _ _=_;omega);(rw [u0];omega);rw [ld])
    apply qf;refine qcd (by kernel_rfl) ?_;exact vk ⟨rfl,trivial⟩
   ·(refine zq (o:=o) (ver:=ver) (off:=0) (len:=es.length) (cap:=cap+1) (sz:=4) (i:=i) (j:=es.length) (m:=cap+1) rfl rfl rfl ?_ ?_ ?_ (by omega) (by omega) (by omega) ?_;exact⟨_,rfl⟩;exact⟨rfl,rfl⟩;exact rfl;rw [hi1])
    apply qf;refine wn [4] (by kernel_rfl) rfl ⟨⟨_,rfl,?_⟩,trivial⟩
    (refine zq (o:=st.length) (ver:=0) (off:=0) (len:=es.length+1) (cap:=cap'+1) (sz:=4) (i:=i+1) (j:=es.length+1) (m:=cap'+1) rfl rfl rfl ?_ ?_ ?_ (by omega) (by omega) (by omega) ?_;exact⟨_,rfl⟩;exact⟨rfl,rfl⟩;exact rfl;rw [hi4])
    apply qf;refine wn [8] (by kernel_rfl) rfl ⟨⟨_,rfl,?_⟩,trivial⟩
    (refine y7 (o:=st.length) (ver:=0) (off:=(i+1) * 4) (sz:=4) (bytes:=56) (m:=es.length - i) rfl rfl hS1n (bd S1 hS1o) ?_ rfl ⟨⟨_,_,rfl,rfl,rfl,rfl,rfl⟩⟩ ?_ ?_;(show min _ _=_;omega);(rw [u0];omega);rw [ld])
    apply qf;refine qcd (by kernel_rfl) ?_;exact vk ⟨rfl,trivial⟩
  ·(refine zq (o:=o) (ver:=ver) (off:=0) (len:=es.length) (cap:=cap+1) (sz:=4) (i:=i) (j:=es.length) (m:=cap+1) rfl rfl rfl ?_ ?_ ?_ (by omega) (by omega) (by omega) ?_;exact⟨_,rfl⟩;exact⟨rfl,rfl⟩;exact rfl;rw [hi1])
   apply qf;refine wn [3] (by kernel_rfl) rfl ⟨⟨_,rfl,?_⟩,trivial⟩
   (apply z7;exact rfl;exact rfl;exact zn (by omega) (by omega))
   apply qf;refine wn [4] (by kernel_rfl) rfl ⟨⟨_,rfl,?_⟩,trivial⟩
   (refine zq (o:=st.length) (ver:=0) (off:=0) (len:=es.length+1) (cap:=cap'+1) (sz:=4) (i:=i+1) (j:=es.length+1) (m:=cap'+1) rfl rfl rfl ?_ ?_ ?_ (by omega) (by omega) (by omega) ?_;exact⟨_,rfl⟩;exact⟨rfl,rfl⟩;exact rfl;rw [hi4])
   apply qf;refine wn [8] (by kernel_rfl) rfl ⟨⟨_,rfl,?_⟩,trivial⟩
   (refine y7 (o:=st.length) (ver:=0) (off:=(i+1) * 4) (sz:=4) (bytes:=56) (m:=es.length - i) rfl rfl hS1n (bd S1 hS1o) ?_ rfl ⟨⟨_,_,rfl,rfl,rfl,rfl,rfl⟩⟩ ?_ ?_;(show min _ _=_;omega);(rw [u0];omega);rw [ld])
   apply qf;refine qcd (by kernel_rfl) ?_;exact vk ⟨rfl,trivial⟩
 ·rintro _ ⟨t,rfl⟩
  repeat' (first|apply qm|apply qe|apply qf|apply qj|apply qh|apply qu)
  refine qo rfl (zi rfl) ?_
  show OwnR 4 100 _ st _ (.os st.length 0 0 (es.length+1) (cap'+1)) (S1.set st.length (.cells 0 100 (flat ((es.take i++e::es.drop i).map entA)++(zs.drop 4).drop dz.length)))
  refine⟨.inr ⟨st.length,0,cap',_,by rw [List.length_map,sc],jq hS1n,lq,qh1 _,by rw [List.length_map,sc];omega,z3⟩,by rw [List.length_set,hS1l];omega,fun j hj _=>?_,fun o' d7=>?_⟩
  ·rw [List.getElem?_set_ne (by omega)]
   exact hS1j j hj
  ·simp only [zm,Option.some.injEq] at d7
   left;omega
theorem q8y (es:List EntV) (e:EntV) (i:Nat) (hi:i≤es.length) (hl:es.length<1000000) (st:List AObj) (c:AV) (hc:OwnS st 4 100 (es.map entA) c):qn E 226 [c,Iv i,.sl 4 [entA e] none] st fun r st'=>OwnR 4 100 ((es.take i++e::es.drop i).map entA) st c r st':=by
 have o7:(es.map entA).length=es.length:=by simp
 have hap:i=es.length→(es.take i++e::es.drop i).map entA=es.map entA++[entA e]:=fun h=>by subst h;simp
 rcases hc with⟨h0,hnr⟩ | ⟨o,ver,cap,pad,rfl,e2,e3,e4,e5,e6⟩
 ·have hes:es=[]:=by simpa using h0
  subst hes;obtain rfl:i=0:=by simpa using hi
  rw [hap rfl];exact zeu e st c hnr
 ·rw [o7] at e5 ⊢
  by_cases hin:i=es.length
  ·rw [hap hin]
   subst hin;exact zev es e hl st o ver cap pad e2 e3 e5 e6
  ·by_cases i9:es.length+1≤cap+1
   ·exact zex es e i (by omega) hl st o ver cap pad e2 e3 i9 e6
   ·exact zew es e i (by omega) hl st o ver cap pad e2 e3 (by omega) e6
end Go.Proofs.YtihlchbgjdkmpaaGreatDoor
namespace Go.Pl
open Go Go.Proofs
def qf4 (l:qq) (i:Nat) (x:za):qq:=match l.ents[i]? with
 |some e=>⟨l.ents.set i ⟨x,e.id⟩,l.next,l.many⟩
 |none=>l
def wu (l:qq) (id:Int) (fs:List Fld):ErrV×qq:=if atF l id<0 then (.num 7,l) else if zw fs = .no then (.no,qf4 l (atF l id).toNat (x2 fs)) else (zw fs,l)
def delL (l:qq) (i:Nat):qq:=⟨l.ents.take i++l.ents.drop (i+1),l.next,l.many - 1⟩
def delF (l:qq) (id:Int):ErrV×qq:=if atF l id<0 then (.num 7,l) else (.no,delL l (atF l id).toNat)
def insL (l:qq) (k:Nat) (x:za):qq:=⟨l.ents.take k++⟨x,l.next⟩::l.ents.drop k,l.next+1,l.many+1⟩
def insF (l:qq) (id:Int) (fs:List Fld):Int×ErrV×qq:=
 if atF l id<0∧id≠0 then (0,.num 7,l) else if zw fs = .no then (if 400≤l.many then (0,.num 11,l) else (l.next,.no,insL l (atF l id+1).toNat (x2 fs))) else (0,zw fs,l)
structure LB (n:Nat) (l:qq):Prop where
 small:n<900000
 len:l.ents.length≤n
 nx0:1≤l.next
 nx1:l.next≤n+1
 mn0 : -(n:Int)≤l.many
 mn1:l.many≤n
theorem zby {n:Nat} {l:qq} (h:LB n l) (hs:n+1<900000) (id:Int) (fs:List Fld):LB (n+1) (wu l id fs).2:=by
 have h1:=h.len;have h2:=h.nx0;have h3:=h.nx1;have h4:=h.mn0;have h5:=h.mn1;unfold wu;split
 ·exact⟨hs,by simp only;omega,h2,by simp only;omega,by simp only;omega,by simp only;omega⟩
 ·split
  ·unfold qf4
   split
   ·exact⟨hs,by simp;omega,h2,by simp only;omega,by simp only;omega,by simp only;omega⟩
   ·exact⟨hs,by simp only;omega,h2,by simp only;omega,by simp only;omega,by simp only;omega⟩
  ·exact⟨hs,by simp only;omega,h2,by simp only;omega,by simp only;omega,by simp only;omega⟩
theorem zdl {n:Nat} {l:qq} (h:LB n l) (hs:n+1<900000) (id:Int):LB (n+1) (delF l id).2:=by
 have h1:=h.len;have h2:=h.nx0;have h3:=h.nx1;have h4:=h.mn0;have h5:=h.mn1;unfold delF;split
 ·exact⟨hs,by simp only;omega,h2,by simp only;omega,by simp only;omega,by simp only;omega⟩
 ·exact⟨hs,by simp [delL];omega,h2,by simp only [delL];omega,by simp only [delL];omega,by simp only [delL];omega⟩
theorem zd2 {n:Nat} {l:qq} (h:LB n l) (hs:n+1<900000) (id:Int) (fs:List Fld):LB (n+1) (insF l id fs).2.2:=by
 have h1:=h.len;have h2:=h.nx0;have h3:=h.nx1;have h4:=h.mn0;have h5:=h.mn1;have same:LB (n+1) l:=⟨hs,by omega,h2,by omega,by omega,by omega⟩;unfold insF;split
 ·exact same
 ·split
  ·split
   ·exact same
   ·exact⟨hs,by simp [insL];omega,by simp only [insL];omega,by simp only [insL];omega,by simp only [insL];omega,by simp only [insL];omega⟩
  ·exact same
end Go.Pl
namespace Go.Proofs.YtihlchbgjdkmpaaGreatDoor
open Go Go.Av Go.RowKit Go.Proofs Go.Pl
def oneF (l:qq) (x:ql):Int×ErrV×qq:=if x.kind=1 then (0,wu l x.id x.fields) else if x.kind=2 then (0,delF l x.id) else insF l x.id x.fields
theorem qof {n:Nat} {l:qq} (h:LB n l) (hs:n+1<900000) (x:ql):LB (n+1) (oneF l x).2.2:=by
 unfold oneF;split
 ·exact zby h hs _ _
 ·split
  ·exact zdl h hs _
  ·exact zd2 h hs _ _
theorem q2r (l:qq) (hl:l.ents.length<1000000):j8 E 119 [.a (kf l)] 0 (hpF []) ⟨.bx 0 0,ju [],lstH 1 l++kz [],2⟩:=by
 refine wh [.a (kf l)] [] 0 (.bx 0 0) (lstH 1 l) 2 Tryz.func119 rfl rfl rfl rfl fun S F ρ=>?_;apply qd [19];repeat' (first|apply And.intro|(intro h;try exact cDd)|exact⟨Tryz.call169⟩|(refine Exists.intro _ ⟨q02 [.sl 4 (l.ents.map entA) none] _ (fun _=>rfl) (fun st=>q38 l.ents st hl),?_⟩)|exact cSd|apply qb [19]|refine exr ?_|refine qi ?_)
theorem zec (n:Nat) (l:qq) (id:Int) (fs:List Fld) (hB:LB n l) (hK:KeyB fs) (hl:fs.length<1000000):j8 E 170 [.bx 0 0,.i id,.a (kj fs)] 2 (hpF (lstH 1 l)) ⟨.a (errA (wu l id fs).1),ju (lstH 1 l),lstH 2 (wu l id fs).2++kz (lstH 1 l),3⟩:=by
 refine wh [.bx 0 0,.i id,.a (kj fs)] (lstH 1 l) 2 (.a (errA (wu l id fs).1)) (lstH 2 (wu l id fs).2) 3 Tryz.func170 rfl rfl rfl rfl fun S F ρ=>?_;have d6:=hB.len;have hsm:=hB.small;have h1:=qn6 l id (by omega);have h2:=fun st=>q20 fs st hK hl;unfold wu;rcases qhy l id with h | ⟨i,e,h,he,bz,hid1⟩
 ·rw [h] at h1 ⊢
  rw [if_pos (by decide)];apply qd [];repeat' (first|apply And.intro|(intro h;try exact cDd)|exact⟨Tryz.call174⟩|(refine zy h1 ?_)|exact cSd|apply qb []|refine exr ?_|refine qi ?_)
 ·rw [h] at h1 ⊢
  rw [if_neg (by omega)];have hm:(l.ents.map entA)[i]? = some (entA e):=by rw [List.getElem?_map,he];rfl
  have rx:=lt_of_getElem? hm;unfold x2 at h2 ⊢
  cases hc:zw fs with
  |no=>
   rw [hc,if_pos rfl] at h2;rw [if_pos rfl,if_pos rfl];unfold qf4;rw [Int.toNat_natCast,he];apply qd [];repeat' (first|apply And.intro|(intro h;try exact cDd)|exact⟨Tryz.call174⟩|(refine zy h1 ?_)|exact⟨Tryz.call224⟩|refine cpe h2 ?_|(refine qlk (i:=i) rfl rfl rfl rfl rfl rfl (by omega) ?_)|(refine q79 (i:=i) (j:=0) (z:=entA e) (z':=entA ⟨⟨3,ke fs,fs⟩,e.id⟩) (u:=v6 ⟨3,ke fs,fs⟩) rfl rfl (fun _=>rfl) rfl rfl rfl hm rfl rfl ?_)|exact cSd|apply qb []|refine exr ?_|refine qi ?_)
   all_goals (simp [List.map_set];done)
  |num m=>
   rw [hc,if_neg (by simp)] at h2;rw [if_neg (by simp)];apply qd []
   repeat' (first|apply And.intro|(intro h;try exact cDd)|exact⟨Tryz.call174⟩|(refine zy h1 ?_)|exact⟨Tryz.call224⟩|refine cpe h2 ?_|exact cSd|apply qb []|refine exr ?_|refine qi ?_)
  |at' a m=>
   rw [hc,if_neg (by simp)] at h2;rw [if_neg (by simp)];apply qd [];repeat' (first|apply And.intro|(intro h;try exact cDd)|exact⟨Tryz.call174⟩|(refine zy h1 ?_)|exact⟨Tryz.call224⟩|refine cpe h2 ?_|exact cSd|apply qb []|refine exr ?_|refine qi ?_)
theorem zfw (n:Nat) (l:qq) (id:Int) (hB:LB n l):j8 E 171 [.bx 0 0,.i id] 2 (hpF (lstH 1 l)) ⟨.a (errA (delF l id).1),ju (lstH 1 l),lstH 2 (delF l id).2++kz (lstH 1 l),3⟩:=by
 refine wh [.bx 0 0,.i id] (lstH 1 l) 2 (.a (errA (delF l id).1)) (lstH 2 (delF l id).2) 3 Tryz.func171 rfl rfl rfl rfl fun S F ρ=>?_;have d6:=hB.len;have hsm:=hB.small;have h4:=hB.mn0;have h5:=hB.mn1;have h1:=qn6 l id (by omega);unfold delF;rcases qhy l id with h | ⟨i,e,h,he,bz,hid1⟩
 ·rw [h] at h1 ⊢
  rw [if_pos (by decide)];apply qd [];repeat' (first|apply And.intro|(intro h;try exact cDd)|exact⟨Tryz.call174⟩|(refine zy h1 ?_)|exact cSd|apply qb []|refine exr ?_|refine qi ?_)
 ·rw [h] at h1 ⊢
  rw [if_neg (by omega)];have rx:=lt_of_getElem? he;have h2:=qpw (f:=225) (E:=E) (xs:=l.ents.map entA) [Iv i,Iv ((i:Int)+1)] rfl (fun st c hc=>zgi l.ents i rx (by omega) st c hc);unfold delL;rw [Int.toNat_natCast];apply qd [];repeat' (first|apply And.intro|(intro h;try exact cDd)|exact⟨Tryz.call174⟩|(refine zy h1 ?_)|exact⟨Tryz.call225⟩|(refine zy h2 ?_)|exact cSd|apply qb []|refine exr ?_|refine qi ?_)
theorem zf0 (n:Nat) (l:qq) (id:Int) (fs:List Fld) (hB:LB n l) (hK:KeyB fs) (hl:fs.length<1000000):j8 E 172 [.bx 0 0,.i id,.a (kj fs)] 2 (hpF (lstH 1 l)) ⟨.tu [.i (insF l id fs).1,.a (errA (insF l id fs).2.1)],ju (lstH 1 l),lstH 2 (insF l id fs).2.2++kz (lstH 1 l),3⟩:=by
 refine wh [.bx 0 0,.i id,.a (kj fs)] (lstH 1 l) 2 (.tu [.i (insF l id fs).1,.a (errA (insF l id fs).2.1)]) (lstH 2 (insF l id fs).2.2) 3 Tryz.func172 rfl rfl rfl rfl fun S F ρ=>?_;have d6:=hB.len;have hsm:=hB.small;have h4:=hB.mn0;have h5:=hB.mn1;have h6:=hB.nx0;have h7:=hB.nx1;have h1:=qn6 l id (by omega);have h2:=fun st=>q20 fs st hK hl;unfold insF;rcases qhy l id with h | ⟨i,e,h,he,bz,hid1⟩
 ·rw [h] at h1 ⊢
  by_cases h0:id=0
  ·rw [if_neg (fun q=>q.2 h0)]
   rw [show ((-1:Int)+1).toNat=0 from rfl];unfold x2 at h2 ⊢
   cases hc:zw fs with
   |no=>
    rw [hc,if_pos rfl] at h2;rw [if_pos rfl,if_pos rfl];by_cases hm:400≤l.many
    ·rw [if_pos hm]
     apply qd [];repeat' (first|apply And.intro|(intro h;try exact cDd)|exact⟨Tryz.call174⟩|(refine zy h1 ?_)|exact⟨Tryz.call224⟩|refine cpe h2 ?_|exact cSd|apply qb []|refine exr ?_|refine qi ?_)
    ·rw [if_neg hm]
     have h3:=qpw (f:=226) (E:=E) (xs:=l.ents.map entA) [Iv ((0:Nat):Int),.sl 4 [entA ⟨⟨3,ke fs,fs⟩,l.next⟩] none] rfl (fun st c hc=>q8y l.ents ⟨⟨3,ke fs,fs⟩,l.next⟩ (0) (by omega) (by omega) st c hc);unfold insL;apply qd []
     repeat' (first|apply And.intro|(intro h;try exact cDd)|exact⟨Tryz.call174⟩|(refine zy h1 ?_)|exact⟨Tryz.call224⟩|refine cpe h2 ?_|exact⟨Tryz.call226⟩|(refine zy h3 ?_)|exact cSd|apply qb []|refine exr ?_|refine qi ?_)
   |num m=>
    rw [hc,if_neg (by simp)] at h2;rw [if_neg (by simp)];apply qd []
    repeat' (first|apply And.intro|(intro h;try exact cDd)|exact⟨Tryz.call174⟩|(refine zy h1 ?_)|exact⟨Tryz.call224⟩|refine cpe h2 ?_|exact cSd|apply qb []|refine exr ?_|refine qi ?_)
   |at' a m=>
    rw [hc,if_neg (by simp)] at h2;rw [if_neg (by simp)];apply qd [];repeat' (first|apply And.intro|(intro h;try exact cDd)|exact⟨Tryz.call174⟩|(refine zy h1 ?_)|exact⟨Tryz.call224⟩|refine cpe h2 ?_|exact cSd|apply qb []|refine exr ?_|refine qi ?_)
  ·rw [if_pos ⟨by decide,h0⟩]
   apply qd [];repeat' (first|apply And.intro|(intro h;try exact cDd)|exact⟨Tryz.call174⟩|(refine zy h1 ?_)|exact cSd|apply qb []|refine exr ?_|refine qi ?_)
 ·rw [h] at h1 ⊢
  have rx:=lt_of_getElem? he;rw [if_neg (fun q=>absurd q.1 (by omega))];rw [show ((i:Int)+1).toNat=i+1 from rfl];unfold x2 at h2 ⊢
  cases hc:zw fs with
  |no=>
   rw [hc,if_pos rfl] at h2;rw [if_pos rfl,if_pos rfl];by_cases hm:400≤l.many
   ·rw [if_pos hm]
    apply qd [];repeat' (first|apply And.intro|(intro h;try exact cDd)|exact⟨Tryz.call174⟩|(refine zy h1 ?_)|exact⟨Tryz.call224⟩|refine cpe h2 ?_|exact cSd|apply qb []|refine exr ?_|refine qi ?_)
   ·rw [if_neg hm]
    have h3:=qpw (f:=226) (E:=E) (xs:=l.ents.map entA) [Iv ((i+1:Nat):Int),.sl 4 [entA ⟨⟨3,ke fs,fs⟩,l.next⟩] none] rfl (fun st c hc=>q8y l.ents ⟨⟨3,ke fs,fs⟩,l.next⟩ (i+1) (by omega) (by omega) st c hc);unfold insL;apply qd []
    repeat' (first|apply And.intro|(intro h;try exact cDd)|exact⟨Tryz.call174⟩|(refine zy h1 ?_)|exact⟨Tryz.call224⟩|refine cpe h2 ?_|exact⟨Tryz.call226⟩|(refine zy h3 ?_)|exact cSd|apply qb []|refine exr ?_|refine qi ?_)
  |num m=>
   rw [hc,if_neg (by simp)] at h2;rw [if_neg (by simp)];apply qd []
   repeat' (first|apply And.intro|(intro h;try exact cDd)|exact⟨Tryz.call174⟩|(refine zy h1 ?_)|exact⟨Tryz.call224⟩|refine cpe h2 ?_|exact cSd|apply qb []|refine exr ?_|refine qi ?_)
  |at' a m=>
   rw [hc,if_neg (by simp)] at h2;rw [if_neg (by simp)];apply qd [];repeat' (first|apply And.intro|(intro h;try exact cDd)|exact⟨Tryz.call174⟩|(refine zy h1 ?_)|exact⟨Tryz.call224⟩|refine cpe h2 ?_|exact cSd|apply qb []|refine exr ?_|refine qi ?_)
def kw:Nat→List ql→qq→List Int→ErrV×qq×List Int
 | _,[],l,ids=>(.no,l,ids)
 |k,x::r,l,ids=>if (oneF l x).2.1 = .no then kw (k+1) r (oneF l x).2.2 (if 0<(oneF l x).1 then ids++[(oneF l x).1] else ids) else (.at' k (oneF l x).2.1.code,l,ids)
def doF (l:qq) (b:List ql):ErrV×qq×List Int:=if eErr b = .no then kw 0 b l [] else (eErr b,l,[])
def doA (r:ErrV×qq×List Int):AV:=match r.1 with
 | .no=>.tu [kf r.2.1,yw r.2.2,errA .no]
 |e=>.tu [.v (.pointer none),yw [],errA e]
theorem zae (r:ErrV×qq×List Int):Pure (doA r):=by
 unfold doA;split
 ·exact qij (qhe _) (qdb _) (jx _)
 ·exact qij (qt _) (qdb _) (jx _)
theorem q73 {l:qq} {x:ql} (h:(oneF l x).2.1≠.no):(oneF l x).2.1.code≠0:=by
 have key:∀ fs:List Fld,zw fs≠.no→(zw fs).code≠0:=fun fs h h'=>h ((qmv fs).1 h');unfold oneF at h ⊢;split
 ·rename_i h1
  rw [if_pos h1] at h;unfold wu at h ⊢;split
  ·exact (by decide:(ErrV.num 7).code≠0)
  ·rename_i h2
   rw [if_neg h2] at h;split
   ·rename_i h3
    rw [if_pos h3] at h;exact absurd rfl h
   ·exact key _ (by assumption)
 ·rename_i h1
  rw [if_neg h1] at h;split
  ·rename_i h2
   rw [if_pos h2] at h;unfold delF at h ⊢;split
   ·exact (by decide:(ErrV.num 7).code≠0)
   ·rename_i h3
    rw [if_neg h3] at h;exact absurd rfl h
  ·rename_i h2
   rw [if_neg h2] at h;unfold insF at h ⊢;split
   ·exact (by decide:(ErrV.num 7).code≠0)
   ·rename_i h3
    rw [if_neg h3] at h;split
    ·rename_i h4
     rw [if_pos h4] at h;split
     ·exact (by decide:(ErrV.num 11).code≠0)
     ·rename_i h5
      rw [if_neg h5] at h;exact absurd rfl h
    ·exact key _ (by assumption)
theorem q64 (n:Nat) (l:qq) (x:ql) (hB:LB n l) (hK:KeyB x.fields) (hl:x.fields.length<1000000):j8 E 120 [.bx 0 0,.a (vw x)] 2 (hpF (lstH 1 l)) ⟨.tu [.i (oneF l x).1,.a (errA (oneF l x).2.1)],ju (lstH 1 l),lstH 2 (oneF l x).2.2++kz (lstH 1 l),3⟩:=by
 refine wh [.bx 0 0,.a (vw x)] (lstH 1 l) 2 (.tu [.i (oneF l x).1,.a (errA (oneF l x).2.1)]) (lstH 2 (oneF l x).2.2) 3 Tryz.func120 rfl rfl rfl rfl fun S F ρ=>?_;unfold oneF;by_cases h1:x.kind=1
 ·rw [if_pos h1]
  have hc:=zec n l x.id x.fields hB hK hl;generalize wu l x.id x.fields=r at hc;apply qd [];repeat' (first|apply And.intro|(intro h;try exact cDd)|exact⟨Tryz.call170⟩|(refine zy hc ?_)|exact cSd|apply qb []|refine exr ?_|refine qi ?_)
 ·rw [if_neg h1]
  by_cases h2:x.kind=2
  ·rw [if_pos h2]
   have hc:=zfw n l x.id hB;generalize delF l x.id=r at hc;apply qd [];repeat' (first|apply And.intro|(intro h;try exact cDd)|exact⟨Tryz.call171⟩|(refine zy hc ?_)|exact cSd|apply qb []|refine exr ?_|refine qi ?_)
  ·rw [if_neg h2]
   have hc:=zf0 n l x.id x.fields hB hK hl;generalize insF l x.id x.fields=r at hc;apply qd [];repeat' (first|apply And.intro|(intro h;try exact cDd)|exact⟨Tryz.call172⟩|(refine zy hc ?_)|exact cSd|apply qb []|refine exr ?_|refine qi ?_)
theorem q4i (n:Nat) (l:qq) (b:List ql) (st:List AObj) (hB:LB n l) (hn:n+40<900000) (hE:∀ x∈b,EdB x) (hl:b.length<1000000):qn E 70 [kf l,zo b] st fun r st'=>r=doA (doF l b)∧st'=st:=by
 refine qlt [.a (kf l),.a (zo b)] (zae _) Tryz.func70 rfl rfl (fun _=>rfl) rfl fun S0=>?_;have cz:=fun st=>qkz b st _ rfl hE (by omega);unfold doF
 cases he:eErr b with
 |num m=>
  rw [he] at cz;rw [if_neg (by simp)];apply qd []
  repeat' (first|apply And.intro|(intro h;try exact cDd)|exact⟨Tryz.call99⟩|refine cpe cz ?_|exact cSd|apply qb []|refine exr ?_|refine qi ?_)
 |at' a m=>
  rw [he] at cz;rw [if_neg (by simp)];apply qd []
  repeat' (first|apply And.intro|(intro h;try exact cDd)|exact⟨Tryz.call99⟩|refine cpe cz ?_|exact cSd|apply qb []|refine exr ?_|refine qi ?_)
 |no=>
  rw [he] at cz;rw [if_pos rfl];obtain⟨p6,hb40,hg⟩:=qc8 he;have ng:=q2r l (by have:=hB.len;omega);apply qd [];repeat' (first|apply And.intro|(intro h;try exact cDd)|exact⟨Tryz.call99⟩|refine cpe cz ?_|exact⟨Tryz.call119⟩|(refine zy ng ?_)|exact cSd|apply qb []|refine exr ?_|refine qi ?_)
  refine w7 (X:=Nat×qq×List Int) (fun (k,q,ids)=>⟨[(8,.bx 0 0),(9,.tp 2),(21,.a (zo b)),(22,.i b.length),(23,.i k)],[(0,some (.cells 144 [.tp 1,.i q.next,.i q.many])),(1,some (.own 4 100 (q.ents.map entA))),(2,some (.tip 1 3 (ids.map fun x=>Iv x)))],3⟩)
   (fun (k,q,ids)=>k≤b.length∧LB (n+k) q∧ids.length≤k∧kw k (b.drop k) q ids=kw 0 b l []) (fun (k,q,ids)=>b.length - k) (0,l,[]) ⟨by omega,hB,by simp,rfl⟩ ?_ ?_
  ·skip
   repeat' (first|apply And.intro|(intro h;try exact cDd)|exact cSd|apply qb []|refine exr ?_|refine qi ?_)
   all_goals (simp;done)
  ·rintro⟨k,q,ids⟩ ⟨hk,hq,rx,a8⟩
   by_cases i6:k<b.length
   ·have hx:b[k]? = some b[k]:=List.getElem?_eq_getElem i6
    have o8:(b.map vw)[k]? = some (vw b[k]):=by rw [List.getElem?_map,hx];rfl
    have hxE:=hE b[k] (List.getElem_mem i6);have hxf:=(qho (hg b[k] (List.getElem_mem i6))).1;rw [List.drop_eq_getElem_cons i6,kw] at a8;have hidl:(ids.map fun x=>Iv x).length=ids.length:=by simp
    generalize b[k]=x at hx o8 hxE hxf a8;have sg:=q64 (n+k) q x hq hxE.keys (by omega);have pg:=qof hq (by omega) x;have hcd:=fun h=>q73 (l:=q) (x:=x) h;generalize oneF q x=o at sg pg hcd a8;obtain⟨id,e,q'⟩:=o;dsimp only at sg pg hcd a8
    cases e with
    |no=>
     rw [if_pos rfl] at a8;by_cases h0:0<id
     ·rw [if_pos h0] at a8
      apply qd [];repeat' (first|apply And.intro|(intro h;try exact cDd)|(refine Exists.intro (k) ⟨by omega,_,o8,?_⟩)|exact⟨Tryz.call120⟩|(refine zy sg ?_)|(refine Exists.intro (k+1,q',ids++[id]) ⟨⟨by omega,pg,by simp;omega,a8⟩,by simp only;omega,?_⟩)|exact cSd|apply qb []|refine exr ?_|refine qi ?_)
      all_goals first|(simp;done)|(simp;omega)
     ·rw [if_neg h0] at a8
      apply qd [];repeat' (first|apply And.intro|(intro h;try exact cDd)|(refine Exists.intro (k) ⟨by omega,_,o8,?_⟩)|exact⟨Tryz.call120⟩|(refine zy sg ?_)|(refine Exists.intro (k+1,q',ids) ⟨⟨by omega,pg,by first|omega|(simp only;omega),a8⟩,by simp only;omega,?_⟩)|exact cSd|apply qb []|refine exr ?_|refine qi ?_)
      all_goals first|(simp;done)|(simp;omega)
    |num m=>
     rw [if_neg (by simp)] at a8;rw [← a8];have hft:=fun st=>qpz k (.num m) st (hcd (by simp));apply qd []
     repeat' (first|apply And.intro|(intro h;try exact cDd)|(refine Exists.intro (k) ⟨by omega,_,o8,?_⟩)|exact⟨Tryz.call120⟩|(refine zy sg ?_)|exact⟨Tryz.call121⟩|refine cpe hft ?_|exact cSd|apply qb []|refine exr ?_|refine qi ?_)
    |at' a m=>
     rw [if_neg (by simp)] at a8;rw [← a8];have hft:=fun st=>qpz k (.at' a m) st (hcd (by simp));apply qd [];repeat' (first|apply And.intro|(intro h;try exact cDd)|(refine Exists.intro (k) ⟨by omega,_,o8,?_⟩)|exact⟨Tryz.call120⟩|(refine zy sg ?_)|exact⟨Tryz.call121⟩|refine cpe hft ?_|exact cSd|apply qb []|refine exr ?_|refine qi ?_)
   ·have i6:k=b.length:=by omega
    subst i6;rw [List.drop_length,kw] at a8;rw [← a8];apply qd [];repeat' (first|apply And.intro|(intro h;try exact cDd)|exact cSd|apply qb []|refine exr ?_|refine qi ?_)
end Go.Proofs.YtihlchbgjdkmpaaGreatDoor
