/- Contracts and plain facts that the closing text leans on (part 7). No condition of their own beyond those that each states. -/
import Derived.Test.YtneejjefekdgjaaGreatDoorK6
import Derived.Lib.SliceRun
set_option maxRecDepth 100000
set_option linter.unusedVariables false
set_option linter.unusedSimpArgs false
namespace Go.Pl
open Go Go.Proofs Go.Proofs.YtneejjefekdgjaaGreatDoor
structure v6 where
 gen:Int
 base:qa
 batches:List (List qq)
 ends : List Int
 tail:qa
def qev:v6:=⟨0,[],[],[],[]⟩
def ve (text:qa):ErrV:=if 60000<text.length then .num 1 else match (zn text).1 with
 |none=>.no
 |some (a,n)=>.at' a n
def recsF:Nat→qa→Int→List (List qq)→List Int→Bool×List (List qq)×List Int×qa
 | 0,l,_,bs,es=>(false,bs,es,l)
 |f+1,l,a,bs,es=>
  if (zq l).1=2 then (false,bs,es,l)
  else if (zq l).1=1 then match decF (zq l).2.1 with
   |some b=>recsF f (l.drop (zq l).2.2.toNat) (a+(zq l).2.2) (bs++[b]) (es++[a+(zq l).2.2])
   |none=>(true,bs,es,l)
  else (true,bs,es,l)
def qaj (text:qa):qa:=(xa text).2
def atH (text:qa):Nat:=jw (qaj text).length (qaj text)
def qfx (text:qa):qa:=(qaj text).take (atH text)
def qbq (text:qa):Bool×List (List qq)×List Int×qa:=recsF (text.length+1) ((qaj text).drop (atH text)) (((text.length - (qaj text).length+atH text:Nat)):Int) [] []
def ja (text:qa):ErrV×v6:=
 if 120000<text.length then (.num 1,qev)
 else match ve (qfx text) with
  | .no=>if (qbq text).1=true then (.at' (qbq text).2.1.length 10,qev) else (.no,⟨(xa text).1,qfx text,(qbq text).2.1,(qbq text).2.2.1,(qbq text).2.2.2⟩)
  |e=>(e,qev)
structure qcw (b:List qq):Prop where
 ok:eErr b = .no
 B:∀ x∈b,EdB x
 len:(encF b).length≤50000
theorem qcw.dec {b:List qq} (h:qcw b):decF (encF b)=some b:=q91 h.ok h.B h.len
theorem qcw.good {b:List qq} (h:qcw b):yc (encF b):=q3l h.ok h.B h.len
theorem q67 {t:qa} {b:List qq} (h:decF t=some b):qcw b∧encF b=t:=by
 obtain⟨h1,h2,h3⟩:=q6s h
 exact⟨⟨h1,zb8 h,by rw [h2];exact h3⟩,h2⟩
def recE (b:List qq):qa:=recF (encF b)
def ke (bs:List (List qq)):qa:=bs.flatMap recE
def x3 (a:Int):List (List qq)→List Int
 | []=>[]
 |b::r=>(a+(recE b).length)::x3 (a+(recE b).length) r
theorem x4 (b:List qq) (r:List (List qq)):ke (b::r)=recE b++ke r:=rfl
theorem q11 (r:List (List qq)) (b:List qq):ke (r++[b])=ke r++recE b:=by simp [ke]
theorem qpu:∀ (r:List (List qq)) (a:Int) (b:List qq),x3 a (r++[b])=x3 a r++[a+(ke r).length+(recE b).length]
 | [],a,b=>by simp [x3,ke]
 |x::r,a,b=>by
  rw [List.cons_append,x3,x3,qpu r,x4]
  simp
  omega
theorem qk5:∀ (r:List (List qq)) (a:Int),(x3 a r).length=r.length
 | [],_=>rfl
 |x::r,a=>by rw [x3];simp [qk5 r]
theorem qpt:∀ (r:List (List qq)) (a:Int),r≠[]→(x3 a r).getLast? = some (a+(ke r).length)
 | [],_,h=>absurd rfl h
 | [x],a,_=>by simp [x3,ke]
 |x::y::r,a,_=>by
  have:=qpt (y::r) (a+(recE x).length) (by simp)
  rw [x3,List.getLast?_cons]
  rw [this,x4 x]
  simp
  omega
theorem qok (b:List qq):0<(recE b).length:=by
 unfold recE
 rw [qiw]
 simp [recL,wb,zr]
theorem qw4:∀ (bs:List (List qq)) (f:Nat) (t:qa) (a:Int) (xs:List (List qq)) (es:List Int),(∀ b∈bs,qcw b)→(zq t).1=2→bs.length<f →
  recsF f (ke bs++t) a xs es=(false,xs++bs,es++x3 a bs,t)
 | [],f+1,t,a,xs,es,_,ht,_=>by
  rw [recsF]
  simp only [ke,List.flatMap_nil,List.nil_append,x3,List.append_nil]
  rw [if_pos ht]
 |b::r,f+1,t,a,xs,es,h,ht,hf=>by
  have hb:=h b (by simp)
  have hrd:zq (ke (b::r)++t)=(1,encF b,((recE b).length:Int)):=by
   rw [x4,List.append_assoc]
   exact q74 _ hb.good
  have hdr:(ke (b::r)++t).drop (recE b).length=ke r++t:=by
   rw [x4,List.append_assoc,List.drop_left]
  rw [recsF,hrd]
  simp only
  rw [if_neg (by decide),if_pos trivial,hb.dec]
  simp only [Int.toNat_natCast]
  rw [hdr,qw4 r f t _ _ _ (fun x hx=>h x (by simp [hx])) ht (by simp at hf;omega)]
  simp [x3]
theorem qw3:∀ (f:Nat) (l:qa) (a:Int) (xs xs':List (List qq)) (es es':List Int) (t:qa),l.length<f→recsF f l a xs es=(false,xs',es',t) →
  ∃ bs,l=ke bs++t∧xs'=xs++bs∧es'=es++x3 a bs∧(∀ b∈bs,qcw b)∧(zq t).1=2
 | 0,l,a,xs,xs',es,es',t,hl,h=>absurd hl (by omega)
 |f+1,l,a,xs,xs',es,es',t,hl,h=>by
  rw [recsF] at h
  split at h
  ·rename_i h2
   simp only [Prod.mk.injEq,true_and] at h
   obtain⟨rfl,rfl,rfl⟩:=h
   exact⟨[],by simp [ke],by simp,by simp [x3],by simp,h2⟩
  ·split at h
   ·rename_i h1
    split at h
    ·rename_i b hd
     obtain⟨hg,he⟩:=q67 hd
     have hrd:zq l=(1,(zq l).2.1,(zq l).2.2):=by rw [← h1]
     obtain⟨_,m,hm,hn⟩:=qqt hrd
     rw [← he] at hm hn
     have hm':l=recE b++m:=hm
     have hn':(zq l).2.2=((recE b).length:Int):=hn
     have hpos:=qok b
     have hlen:l.length=(recE b).length+m.length:=by rw [hm'];simp
     have hdr:l.drop (recE b).length=m:=by
      conv=>lhs;rw [hm']
      rw [List.drop_left]
     rw [hn',Int.toNat_natCast,hdr] at h
     obtain⟨bs,e1,e2,e3,e4,e5⟩:=qw3 f m _ _ _ _ _ _ (by omega) h
     refine⟨b::bs,?_,by rw [e2];simp,by rw [e3];simp [x3],?_,e5⟩
     ·rw [x4,List.append_assoc,← e1]
      exact hm'
     ·intro x hx
      rcases List.mem_cons.1 hx with rfl|hx
      ·exact hg
      ·exact e4 x hx
    ·simp at h
   ·simp at h
structure x9 (text:qa) (b:v6):Prop where
 txt:text=ka b.gen++(b.base++(ke b.batches++b.tail))
 gen:xa text=(b.gen,b.base++(ke b.batches++b.tail))
 parse:ve b.base = .no
 good:∀ x∈b.batches,qcw x
 tail:(zq b.tail).1=2
 ends : b.ends = x3 ((ka b.gen).length + b.base.length) b.batches
 len:text.length≤120000
def BegP (x:qa):Prop:=x=[]∨begF (upto 10 x)=true
theorem q20 {t:qa} (h:(zq t).1=2):BegP t:=by
 by_cases h0:t=[]
 ·exact .inl h0
 ·obtain⟨n,fig,body,R,hp,_⟩:=zay h
  obtain⟨_,_,_,_,_,hx⟩:=R
  exact .inr (q21 hx hp h0)
theorem qsn {bs:List (List qq)} {t:qa} (hg:∀ b∈bs,qcw b) (h:(zq t).1=2):BegP (ke bs++t):=by
 cases bs with
 |nil=>exact q20 h
 |cons b r=>
  refine .inr ?_
  rw [x4,List.append_assoc]
  exact q9r _ (hg b (by simp)).good
theorem q2z {x:qa} (h:BegP x):x=[]∨x.head? = some 37:=by
 rcases h with h|h
 ·exact .inl h
 ·simp only [begF,decide_eq_true_eq] at h
  cases x with
  |nil=>exact .inl rfl
  |cons c r=>
   refine .inr ?_
   have h1:=h.1
   unfold upto at h1
   by_cases hc:c=10
   ·subst hc;simp at h1
   ·simpa [hc] using h1
theorem qlr {l:qa} (h:ve l = .no):(∀ p∈zb l,begF p.1=false∧p.2=true)∧l.length≤60000:=by
 unfold ve at h
 split at h
 ·simp at h
 ·split at h
  ·rename_i hp
   exact⟨qyl hp,by omega⟩
  ·simp at h
theorem q0l {l x:qa} (h:ve l = .no) (hx:BegP x):jw (l++x).length (l++x)=l.length:=by
 rw [qph _ _ l x (Nat.le_refl _) (qlr h).1]
 rcases hx with rfl|hx
 ·rw [qdw];simp
 ·by_cases h0:x=[]
  ·subst h0;rw [qdw];simp
  ·rw [qja h0 hx]
   simp
theorem qy5 {text:qa} {b:v6} (h:x9 text b):ja text=(.no,b):=by
 have hr:qaj text=b.base++(ke b.batches++b.tail):=by unfold qaj;rw [h.gen]
 have ha:atH text=b.base.length:=by
  unfold atH
  rw [hr]
  exact q0l h.parse (qsn h.good h.tail)
 have hb:qfx text=b.base:=by
  unfold qfx
  rw [ha,hr,List.take_left]
 have hl:text.length - (qaj text).length=(ka b.gen).length:=by
  rw [hr]
  conv=>lhs;rw [h.txt]
  simp
 have hc:qbq text=(false,b.batches,b.ends,b.tail):=by
  unfold qbq
  rw [hl,ha,hr,List.drop_left,qw4 b.batches _ b.tail _ _ _ h.good h.tail]
  ·rw [h.ends]
   simp
  ·have:∀ bs:List (List qq),bs.length≤(ke bs).length:=fun bs=>by
    induction bs with
    |nil=>simp
    |cons x r ih=>
     have:=qok x
     rw [x4]
     simp
     omega
   have:=this b.batches
   rw [h.txt]
   simp
   omega
 have hlen:=h.len
 unfold ja
 rw [if_neg (by omega),hb,h.parse,hc,h.gen]
 simp
theorem qgp {text:qa} {b:v6} (h:ja text=(.no,b)):x9 text b:=by
 unfold ja at h
 split at h
 ·simp at h
 ·rename_i hlen
  split at h
  ·rename_i hp
   split at h
   ·simp at h
   ·rename_i hc
    simp only [Prod.mk.injEq,true_and] at h
    subst h
    have hs:=qe4 text
    have hle:atH text≤(qaj text).length:=(qkv _ _ _ (Nat.le_refl _) (Nat.le_refl _)).2
    have hrl:(qaj text).length≤text.length:=by
     conv=>rhs;rw [hs.1]
     unfold qaj
     simp
    have hhl:text.length - (qaj text).length=(ka (xa text).1).length:=by
     have:text.length=(ka (xa text).1).length+(qaj text).length:=by
      conv=>lhs;rw [hs.1]
      unfold qaj
      simp
     omega
    have hq:qbq text=(false,(qbq text).2.1,(qbq text).2.2.1,(qbq text).2.2.2):=by
     have:(qbq text).1=false:=by simpa using hc
     rw [← this]
    obtain⟨bs,e1,e2,e3,e4,e5⟩:=qw3 _ _ _ _ _ _ _ _ (by simp;omega) (show recsF (text.length+1) _ _ _ _=_ from hq)
    simp only [List.nil_append] at e2 e3
    have hbl:(qfx text).length=atH text:=by unfold qfx;simp;omega
    have hrest:qaj text=qfx text++(ke bs++(qbq text).2.2.2):=by
     rw [← e1]
     unfold qfx
     rw [List.take_append_drop]
    refine⟨?_,?_,hp,?_,e5,?_,by omega⟩
    ·simp only
     rw [e2,← hrest]
     exact hs.1
    ·simp only
     rw [e2,← hrest]
     rfl
    ·simp only
     rw [e2]
     exact e4
    ·simp only
     rw [e2,e3,hbl,hhl]
     simp
  ·rename_i hp
   simp only [Prod.mk.injEq] at h
   exact absurd h.1 hp
def xt (b:v6):qa:=ka b.gen++(b.base++ke b.batches)
def qaa (b:v6):Int:=match b.ends.getLast? with
 |some e=>e
 |none=>((ka b.gen).length+b.base.length:Nat)
theorem x9.split {text:qa} {b:v6} (h:x9 text b):text=xt b++b.tail:=by
 have:=h.txt
 unfold xt
 simpa using this
theorem x9.whole {text:qa} {b:v6} (h:x9 text b):qaa b=((xt b).length:Int):=by
 unfold qaa
 rw [h.ends]
 by_cases h0:b.batches=[]
 ·rw [h0]
  simp [x3,xt,h0,ke]
 ·rw [qpt _ _ h0]
  simp [xt]
  omega
theorem x9.take {text:qa} {b:v6} (h:x9 text b):text.take (qaa b).toNat=xt b:=by
 rw [h.whole,Int.toNat_natCast]
 conv=>lhs;rw [h.split]
 rw [List.take_left]
theorem q09 {l:qa} (h:l≠[]) (hp:∀ p∈zb l,p.2=true):l.getLast? = some 10:=by
 have:∀ (k:Nat) (l:qa),l.length≤k→l≠[]→(∀ p∈zb l,p.2=true)→l.getLast? = some 10:=by
  intro k
  induction k with
  |zero=>intro l hl h0;exact absurd (List.length_eq_zero_iff.1 (by omega)) h0
  |succ k ih=>
   intro l hl h0 hp
   rw [vk h0] at hp
   have h10:10∈l:=by simpa using hp _ (List.mem_cons_self ..)
   have e:=yn h10
   by_cases hq:past 10 l=[]
   ·rw [hq] at e
    rw [e]
    simp
   ·have:=ih (past 10 l) (by have:=xj (c:=10) h0;omega) hq fun p hp'=>hp p (by simp [hp'])
    rw [e]
    rw [List.getLast?_append,List.getLast?_cons,this]
    simp
 exact this _ l (Nat.le_refl _) h hp
theorem zac {l x:qa} {n:Int} (h:∀ p∈zb l,p.2=true) (hx:x=[]∨x.head? = some 37) (hp:kc n <+: l++x):kc n <+: l:=by
 rcases qtl hp with h1 | ⟨r,h1,hr⟩
 ·exact h1
 ·by_cases hr0:r=[]
  ·rw [h1,hr0,List.append_nil]
   exact List.prefix_refl _
  ·exfalso
   obtain⟨c,q,rfl⟩:=List.exists_cons_of_ne_nil hr0
   have hc:c=37:=by
    obtain⟨t,ht⟩:=hr
    rcases hx with rfl|hx
    ·simp at ht
    ·rw [← ht] at hx
     simpa using hx
   subst hc
   by_cases hl:l=[]
   ·rw [hl] at h1
    simp [kc,genL] at h1
   ·have hlast:=q09 hl h
    obtain⟨q0,hq0⟩:∃ q0,l=q0++[10]:=by
     have:=qx6 hlast
     exact⟨_,this.symm⟩
    have e:genL++Lib.itoa n++10::[10]=q0++10::(37::q):=by
     have:=h1
     unfold kc at this
     rw [hq0] at this
     simpa using this
    have hu10:10∉genL++Lib.itoa n:=by
     intro h
     rcases List.mem_append.1 h with h|h
     ·revert h;decide
     ·exact qjk n h
    have hA:=wx (c:=10) [10] hu10
    have hB:=xy (c:=10) [10] hu10
    rw [e] at hA hB
    by_cases hq10:10∈q0
    ·have e2:=yn hq10
     have e3:q0++10::(37::q)=upto 10 q0++10::(past 10 q0++10::(37::q)):=by
      conv=>lhs;rw [e2]
      simp
     rw [e3,xy _ (qcg 10 q0)] at hB
     have:=congrArg List.length hB
     simp at this
     omega
    ·rw [xy _ hq10] at hB
     simp at hB
theorem q19 {l x y:qa} (h:∀ p∈zb l,p.2=true) (hx:xa (l++x)=(0,l++x)) (hy:y=[]∨y.head? = some 37):xa (l++y)=(0,l++y):=by
 refine qtp fun n r hg e=>?_
 obtain⟨t,ht⟩:=zac (n:=n) h hy ⟨r,e.symm⟩
 have:xa (l++x)=(n,t++x):=by rw [← ht,List.append_assoc,qge hg]
 rw [hx] at this
 have h0:(0:Int)=n:=(Prod.mk.inj this).1
 have:=hg.1
 omega
theorem x9.gen0 {text:qa} {b:v6} (h:x9 text b):b.gen=0∨jn b.gen:=by
 have:=(qe4 text).2
 rw [h.gen] at this
 exact this
theorem x9.other {text:qa} {b:v6} (h:x9 text b) {bs:List (List qq)} {t:qa} (hg:∀ x∈bs,qcw x) (ht:(zq t).1=2) (hlen:(ka b.gen++(b.base++(ke bs++t))).length≤120000) :
  x9 (ka b.gen++(b.base++(ke bs++t))) ⟨b.gen,b.base,bs,x3 ((ka b.gen).length+b.base.length) bs,t⟩:=by
 refine⟨rfl,?_,h.parse,hg,ht,rfl,hlen⟩
 rcases h.gen0 with h0|h0
 ·have hgen:=h.gen
  have htext:=h.txt
  have e:ka b.gen=[]:=by unfold ka;rw [if_neg (by rw [h0];decide)]
  rw [e,List.nil_append] at htext ⊢
  rw [h0,htext] at hgen
  simp only
  rw [h0]
  exact q19 (fun p hp=>((qlr h.parse).1 p hp).2) hgen (q2z (qsn hg ht))
 ·have e:ka b.gen=kc b.gen:=by unfold ka;rw [if_pos h0]
  simp only
  rw [e,qge h0]
theorem qw1:zq []=(2,[],0):=by
 unfold zq qc7
 rw [if_neg (by simp),if_pos]
 rw [if_neg (by decide)]
 decide
theorem x9.more {text:qa} {b:v6} (h:x9 text b) {x:List qq} (hx:qcw x) (hl:(xt b++recE x).length≤120000):x9 (xt b++recE x) { b with batches:=b.batches++[x],ends:=b.ends++[qaa b+(recE x).length],tail:=[] }:=by
 have e:ka b.gen++(b.base++(ke (b.batches++[x])++[]))=xt b++recE x:=by simp [xt,q11]
 have:=h.other (bs:=b.batches++[x]) (t:=[]) (fun y hy=>by
  rcases List.mem_append.1 hy with hy|hy
  ·exact h.good y hy
  ·obtain rfl:=List.mem_singleton.1 hy
   exact hx) (by rw [qw1]) (by rw [e];exact hl)
 rw [e,qpu,← h.ends] at this
 have hw:((ka b.gen).length+b.base.length+(ke b.batches).length+(recE x).length:Int)=qaa b+(recE x).length:=by
  rw [h.whole]
  simp [xt]
  omega
 rw [hw] at this
 exact this
def appF (text:qa) (x:List qq):ErrV×qa:=
 match (ja text).1 with
 | .no=>match eErr x with
  | .no=>if 50000<(encF x).length then (.num 11,[]) else if 120000<qaa (ja text).2+(recE x).length then (.num 11,[]) else (.no,text.take (qaa (ja text).2).toNat++recE x)
  |e=>(e,[])
 |e=>(e,[])
def qct (gen:Int) (text:qa):ErrV×qa:=
 if gen≠0∧¬ jn gen then (.num 1,[]) else match ve text with
  | .no=>(.no,ka gen++text)
  |e=>(e,[])
theorem qpz {gen:Int} {text s:qa} (h:qct gen text=(.no,s)) (h0:gen≠0) (hl:text.length≤60000):x9 s ⟨gen,text,[],[],[]⟩:=by
 unfold qct at h
 split at h
 ·simp at h
 ·rename_i hg
  have hg:jn gen:=by
   by_cases hg':jn gen
   ·exact hg'
   ·exact absurd ⟨h0,hg'⟩ hg
  split at h
  ·rename_i hp
   simp only [Prod.mk.injEq,true_and] at h
   have e:ka gen=kc gen:=by unfold ka;rw [if_pos hg]
   subst h
   refine⟨by simp [ke],?_,hp,by simp,by simp only;rw [qw1],by simp [x3],?_⟩
   ·rw [e,qge hg]
    simp [ke]
   ·have:=qhz hg
    rw [e]
    simp
    omega
  ·rename_i hp
   simp only [Prod.mk.injEq] at h
   exact absurd h.1 hp
end Go.Pl
namespace Go.Proofs.YtneejjefekdgjaaGreatDoor
open Go Go.Av Go.RowKit Go.Proofs Go.Pl
theorem qg0 (n:Int) (st:List AObj) (h:jn n):ql E 75 [Iv n] st fun r st'=>r = .tu [Sv (kc n),.v .nilIface]∧st'=st:=by
 have h1:=h.1
 have h2:=h.2
 have hl:=qlf (v:=n) (by omega) (by omega)
 have hit:=fun st=>qle n st (by omega) (by omega)
 refine z4 [.i n] (jq (qu _) (qu _)) Tryz.func75 rfl rfl (fun _=>rfl) rfl fun S0=>?_
 apply qd []
 repeat' (first|apply And.intro|(intro h;try exact cDd)|exact⟨Tryz.call133⟩|refine cpe hit ?_|exact cSd|apply qb []|refine exr ?_|refine qj ?_)
 all_goals first|(simp;omega)|(simp [kc,genL];done)
theorem qn6 (n:Int) (st:List AObj) (h:¬ jn n):ql E 75 [Iv n] st fun r st'=>r = .tu [Sv [],.ifc 62 (Iv 1)]∧st'=st:=by
 refine z4 [.i n] (jq (qu _) (qag (qu _))) Tryz.func75 rfl rfl (fun _=>rfl) rfl fun S0=>?_
 unfold jn at h
 apply qd []
 repeat' (first|apply And.intro|(intro h;try exact cDd)|exact cSd|apply qb []|refine exr ?_|refine qj ?_)
theorem zci (n:Int) (text:qa) (st:List AObj) (h:n=0∨jn n) (hl:text.length<1000000):ql E 110 [Iv n,Sv text] st fun r st'=>r = .tu [Sv (ka n++text),.v .nilIface]∧st'=st:=by
 refine z4 [.i n,.s text] (jq (qu _) (qu _)) Tryz.func110 rfl rfl (fun _=>rfl) rfl fun S0=>?_
 by_cases h0:n=0
 ·have e:ka n=[]:=by unfold ka;rw [if_neg (by rw [h0];decide)]
  rw [e,List.nil_append]
  apply qd []
  repeat' (first|apply And.intro|(intro h;try exact cDd)|exact cSd|apply qb []|refine exr ?_|refine qj ?_)
 ·have hg:=h.resolve_left h0
  have hll:=qhz hg
  have e:ka n=kc n:=by unfold ka;rw [if_pos hg]
  have hln:=fun st=>qg0 n st hg
  rw [e]
  apply qd []
  repeat' (first|apply And.intro|(intro h;try exact cDd)|exact⟨Tryz.call75⟩|refine cpe hln ?_|exact cSd|apply qb []|refine exr ?_|refine qj ?_)
theorem zad (n:Int) (text:qa) (st:List AObj) (h:n≠0) (hg:¬ jn n):ql E 110 [Iv n,Sv text] st fun r st'=>r = .tu [Sv [],.ifc 62 (Iv 1)]∧st'=st:=by
 have hln:=fun st=>qn6 n st hg
 refine z4 [.i n,.s text] (jq (qu _) (qag (qu _))) Tryz.func110 rfl rfl (fun _=>rfl) rfl fun S0=>?_
 apply qd []
 repeat' (first|apply And.intro|(intro h;try exact cDd)|exact⟨Tryz.call75⟩|refine cpe hln ?_|exact cSd|apply qb []|refine exr ?_|refine qj ?_)
theorem zch (n:Int) (st:List AObj):ql E 166 [Iv n] st fun r st'=>r=Iv ((ka n).length:Nat)∧st'=st:=by
 refine z4 [.i n] (qu _) Tryz.func166 rfl rfl (fun _=>rfl) rfl fun S0=>?_
 by_cases hg:jn n
 ·have e:ka n=kc n:=by unfold ka;rw [if_pos hg]
  have hln:=fun st=>qg0 n st hg
  rw [e]
  apply qd []
  repeat' (first|apply And.intro|(intro h;try exact cDd)|exact⟨Tryz.call75⟩|refine cpe hln ?_|exact cSd|apply qb []|refine exr ?_|refine qj ?_)
 ·have e:ka n=[]:=by unfold ka;rw [if_neg hg]
  have hln:=fun st=>qn6 n st hg
  rw [e]
  apply qd []
  repeat' (first|apply And.intro|(intro h;try exact cDd)|exact⟨Tryz.call75⟩|refine cpe hln ?_|exact cSd|apply qb []|refine exr ?_|refine qj ?_)
theorem q5t (l:qa) (st:List AObj):ql E 74 [Sv (genL++l),Sv [35,37,103,101,110,32]] st fun r st'=>r=Sv l∧st'=st:=by
 have:=qhe (genL++l) [35,37,103,101,110,32] st
 rw [qbb (show [35,37,103,101,110,32] <+: genL++l from List.prefix_append genL l)] at this
 have e:(genL++l).drop ([35,37,103,101,110,32]:qa).length=l:=by rw [show ([35,37,103,101,110,32]:qa).length=genL.length by rfl,List.drop_left]
 rw [e] at this
 exact this
set_option maxHeartbeats 2000000 in
theorem zae (text:qa) (st:List AObj) (hl:text.length<1000000):ql E 29 [Sv text] st fun r st'=>r = .tu [Iv (xa text).1,Sv (xa text).2]∧st'=st:=by
 refine q6 (jq (qu _) (qu _)) (qp Tryz.func29 rfl (Nat.le_of_ble_eq_true rfl) ?_)
 rcases qnm text with⟨n,r,hg,he,ht⟩ | ⟨hno,ht⟩
 ·rw [ht]
  have hn10:10∉genL++Lib.itoa n:=fun h=>by
   rcases List.mem_append.1 h with h|h
   ·revert h;decide
   ·exact qjk n h
  have hcut:∀ st,ql E 72 [Sv text,Sv [10,10]] st fun x st'=>x = .tu [Sv (genL++Lib.itoa n),Sv r,Bv true]∧st'=st:=fun st=>by
   have:=qpn text [10,10] st (by omega)
   rw [he,qjm,← List.append_assoc,zb7 r hn10] at this
   rw [he,qjm,← List.append_assoc]
   exact this
  have hb:=qlf (v:=n) (by have:=hg.1;omega) (by have:=hg.2;omega)
  have hgl:genL.length=6:=rfl
  have hat:=qi8 (v:=n) (by have:=hg.1;omega) (by have:=hg.2;omega)
  repeat' (first|apply qm|apply qg|apply qf|apply qk|apply qh|(apply ze;exact rfl;exact rfl)|(apply qi;exact Tryz.call72;exact hcut _)|(apply qi;exact Tryz.call74;exact q5t _ _))
  refine qdc Tryz.call73 ((qku (Lib.itoa n) _ (by omega)).mono ?_)
  rintro _ _ ⟨rfl,n',x,rfl,hx⟩
  rcases x with _ | ⟨t',y⟩
  ·simp only at hx
   rw [hat] at hx
   have e:n=n':=by simpa using hx
   subst e
   show AOps _ _ _ _ _ _ _
   have hs:kc n=(genL++Lib.itoa n)++[10,10]:=rfl
   have hs2:¬ kc n≠(genL++Lib.itoa n)++[10,10]:=fun h=>h hs
   repeat' (first|apply qm|apply qg|apply qf|apply qk|apply qh|(apply ze;exact rfl;exact rfl)|(apply jl;(iterate 3 exact rfl))|(apply jf;exact rfl)|(apply za;(iterate 4 exact rfl))|(apply qas;exact cRa)|(apply qgy;exact cRa)|(apply qn;exact rfl;apply qf9;exact cRa)|(apply qn;exact rfl;apply pk_f;exact cRa)|(apply qc;exact rfl;apply xl;exact cAo)|(apply kp;exact rfl;exact rfl;exact cOs)|(apply vi;exact rfl;exact rfl)|apply qz|apply qx|(apply qi;exact Tryz.call75;exact qg0 _ _ hg))
   exact qo rfl (vz rfl) ⟨rfl,_,rfl⟩
  ·exact absurd hat (hx n)
 ·rw [ht]
  have hfst:=qpo text [10,10]
  have hct:=fun h=>q6r (l:=text) (m:=[10,10]) h
  have htr:=qc1 (Lib.cut text [10,10]).1 [35,37,103,101,110,32]
  have hcc:=fun st=>qpn text [10,10] st (by omega)
  generalize Lib.cut text [10,10]=c at hfst hct htr hcc
  obtain⟨a,b,d⟩:=c
  simp only at hfst hct htr hcc
  repeat' (first|apply qm|apply qg|apply qf|apply qk|apply qh|(apply ze;exact rfl;exact rfl)|(apply qi;exact Tryz.call72;exact hcc _)|(apply qi;exact Tryz.call74;exact qhe _ _ _))
  refine qdc Tryz.call73 ((qku (Lib.trimPrefix a [35,37,103,101,110,32]) _ (by omega)).mono ?_)
  rintro _ _ ⟨rfl,n,x,rfl,hx⟩
  show AOps _ _ _ _ _ _ _
  have hbad:¬ (d=true∧jn n∧kc n=a++[10,10]):=fun ⟨h1,h2,h3⟩=>by
   refine hno n b h2 ?_
   rw [h3]
   exact hct h1
  by_cases hg:jn n
  ·have hll:=qhz hg
   cases d with
   |false=>
    rcases x with _ | ⟨t',y⟩
    all_goals
     repeat' (first|apply qm|apply qg|apply qf|apply qk|apply qh|(apply ze;exact rfl;exact rfl)|(apply jf;exact rfl)|(apply za;(iterate 4 exact rfl))|(apply qca;exact cRa)|(apply qat;exact cRa)|(apply qn;exact rfl;apply qjx;exact cRa)|(apply qn;exact rfl;apply pk_t;exact cRa)|(apply qc;exact rfl;apply cd_t;exact cRa)|apply qx|(apply qi;exact Tryz.call75;exact qg0 _ _ hg))
     exact qo rfl (vz rfl) ⟨rfl,_,rfl⟩
   |true=>
    have hne:kc n≠a++[10,10]:=fun h=>hbad ⟨rfl,hg,h⟩
    rcases x with _ | ⟨t',y⟩
    all_goals
     repeat' (first|apply qm|apply qg|apply qf|apply qk|apply qh|(apply ze;exact rfl;exact rfl)|(apply jl;(iterate 3 exact rfl))|(apply jf;exact rfl)|(apply za;(iterate 4 exact rfl))|(apply qas;exact cRa)|(apply qgy;exact cRa)|(apply qat;exact cRa)|(apply qn;exact rfl;apply qf9;exact cRa)|(apply qn;exact rfl;apply pk_t;exact cRa)|(apply qn;exact rfl;apply pk_f;exact cRa)|(apply qc;exact rfl;apply xm;exact cAo)|(apply qc;exact rfl;apply cd_t;exact cRa)|(apply kp;exact rfl;exact rfl;exact cOs)|(apply wd;exact rfl;exact rfl)|(apply vi;exact rfl;exact rfl)|apply qx|(apply qi;exact Tryz.call75;exact qg0 _ _ hg))
     exact qo rfl (vz rfl) ⟨rfl,_,rfl⟩
  ·cases d
   all_goals
    rcases x with _ | ⟨t',y⟩
    all_goals
     repeat' (first|apply qm|apply qg|apply qf|apply qk|apply qh|(apply ze;exact rfl;exact rfl)|(apply jf;exact rfl)|(apply za;(iterate 4 exact rfl))|(apply qas;exact cRa)|(apply qca;exact cRa)|(apply qgy;exact cRa)|(apply qat;exact cRa)|(apply qn;exact rfl;apply qjx;exact cRa)|(apply qn;exact rfl;apply qf9;exact cRa)|(apply qn;exact rfl;apply pk_t;exact cRa)|(apply qn;exact rfl;apply pk_f;exact cRa)|(apply qc;exact rfl;apply cd_t;exact cRa)|(apply wd;exact rfl;exact rfl)|(apply vi;exact rfl;exact rfl)|apply qx|(apply qi;exact Tryz.call75;exact qn6 _ _ hg))
     exact qo rfl (vz rfl) ⟨rfl,_,rfl⟩
def q89 (L:List LnV) (i:Nat) (x:LnV):List qa:=x.text::kv ((L.drop (i+1)).map q1o)
theorem qwd:∀ (r:List (qa×Bool)),(kv r).length≤r.length
 | []=>by simp [kv]
 |(t,e)::r=>by
  have:=qwd r
  rw [kv]
  split <;> simp <;> omega
theorem qwe:∀ {r:List (qa×Bool)} {n:Nat},(∀ p∈r,p.1.length≤n)→∀ s∈kv r,s.length≤n
 | [],_,_,s,hs=>by simp [kv] at hs
 |(t,e)::r,n,h,s,hs=>by
  rw [kv] at hs
  split at hs
  ·rcases List.mem_cons.1 hs with rfl|hs
   ·exact h (s,e) (by simp)
   ·exact qwe (fun p hp=>h p (by simp [hp])) s hs
  ·simp at hs
structure LnsB (L:List LnV):Prop where
 len:L.length<100000
 val:∀ x∈L,x.text.length<100000
theorem LnsB.said {L:List LnV} (h:LnsB L) {i:Nat} {x:LnV} (hx:L[i]? = some x):LsB (q89 L i x):=by
 have h1:=qwd ((L.drop (i+1)).map q1o)
 have h2:=h.len
 have h3:=h.val x (List.mem_of_getElem? hx)
 refine⟨?_,fun s hs=>?_⟩
 ·unfold q89
  simp at h1 ⊢
  omega
 ·rcases List.mem_cons.1 hs with rfl|hs
  ·omega
  ·have:=qwe (n:=100000) (fun p hp=>by
    obtain⟨y,hy,rfl⟩:=List.mem_map.1 hp
    have:=h.val y (List.mem_of_mem_drop hy)
    simp only [q1o]
    omega) s hs
   omega
end Go.Proofs.YtneejjefekdgjaaGreatDoor
namespace Go.Pl
open Go Go.Proofs Go.Proofs.YtneejjefekdgjaaGreatDoor
theorem q1v (l:qa):(zq l).1=1∨(zq l).1=2∨(zq l).1=3:=by
 unfold zq
 split
 ·split
  ·split
   ·unfold qch
    split <;> simp
   ·split
    ·unfold yw
     split
     ·simp
     ·split <;> simp
    ·simp
  ·simp
 ·split <;> simp
theorem q41 {l:qa} (h1:(zq l).1=1):∃ k:Nat,(zq l).2.2=(k:Int)∧0<k∧k≤l.length:=by
 obtain⟨_,m,hm,hn⟩:=qqt (show zq l=(1,(zq l).2.1,(zq l).2.2) by rw [← h1])
 refine⟨_,hn,?_,?_⟩
 ·rw [qiw]
  simp [recL,wb,zr]
 ·have:=congrArg List.length hm
  rw [List.length_append] at this
  omega
theorem qt9 {l:qa}:(zq l).2.1.length≤l.length:=by
 have hp:=jz 10 l
 unfold zq
 split
 ·split
  ·split
   ·simp
   ·split
    ·unfold yw
     split
     ·simp
     ·split
      ·simp;omega
      ·simp
    ·simp
  ·simp
 ·split <;> simp
theorem qu9 (l:qa):jw l.length l≤l.length:=(qkv _ _ _ (Nat.le_refl _) (Nat.le_refl _)).2
theorem q10 {f:Nat} {l:qa} {a:Int} {bs:List (List qq)} {es:List Int} (h:(zq l).1=2):recsF (f+1) l a bs es=(false,bs,es,l):=by
 rw [recsF,if_pos h]
theorem q45 {f:Nat} {l:qa} {a:Int} {bs:List (List qq)} {es:List Int} (h:(zq l).1=3):recsF (f+1) l a bs es=(true,bs,es,l):=by
 rw [recsF,if_neg (by rw [h];decide),if_neg (by rw [h];decide)]
theorem q44 {f:Nat} {l:qa} {a:Int} {bs:List (List qq)} {es:List Int} (h:(zq l).1=1) (hd:decF (zq l).2.1=none):recsF (f+1) l a bs es=(true,bs,es,l):=by
 rw [recsF,if_neg (by rw [h];decide),if_pos h,hd]
theorem q1z {f k:Nat} {l:qa} {a:Int} {bs:List (List qq)} {es:List Int} {b:List qq} (h:(zq l).1=1) (hd:decF (zq l).2.1=some b) (hk:(zq l).2.2=(k:Int)):recsF (f+1) l a bs es=recsF f (l.drop k) (a+k) (bs++[b]) (es++[a+k]):=by
 rw [recsF,if_neg (by rw [h];decide),if_pos h,hd,hk]
 rfl
end Go.Pl
namespace Go.Proofs.YtneejjefekdgjaaGreatDoor
open Go Go.Av Go.RowKit Go.Proofs Go.Pl
@[reducible] def qbn (es : List Int) : AV := .sl 1 (es.map fun x => Iv x) none
@[reducible] def qd9 (bs : List (List qq)) : AV := .sl 1 (bs.map ku) none
@[reducible] def qb8 (b : v6) : AV := .ag [Iv b.gen, Sv b.base, qd9 b.batches, qbn b.ends, Sv b.tail]
theorem zb1 (l:qa) (b:Bool) (st:List AObj) (hl:l.length<4294967281) (h:begF l=b):ql E 118 [Sv l] st fun r st'=>r=Bv b∧st'=st:=by
 subst h
 exact q6i l st hl
theorem q6h (text:qa) (st:List AObj) (hl:text.length<1000000):ql E 65 [Sv text] st fun r st'=>r=Iv ((jw text.length text:Nat):Int)∧st'=st:=by
 refine z4 [.s text] (qu _) Tryz.func65 rfl rfl (fun _=>rfl) rfl fun S0=>?_
 apply qd []
 repeat' (first|apply And.intro|(intro h;try exact cDd)|exact⟨Tryz.call67⟩|(refine Exists.intro _ ⟨qj4 _,?_⟩)|exact cSd|apply qb []|refine exr ?_|refine qj ?_)
 refine qen (X:=Int) text 1 2 [0,1] (fun r=>⟨[(0,.s text),(2,.bx 0 0),(5,.fn (.func 121) [] [.bx 1 0])],[(0,some (.cells 3 [.i r])),(1,some (.cells 9 [.s text]))],2⟩) _
  (fun k rest r=>r=0∧rest.length≤text.length∧jw text.length text=jw text.length rest) (fun c r=>c = .ret∧r=((jw text.length text:Nat):Int)) 0 ⟨rfl,by omega,rfl⟩ ?_ id (by omega) (fun _=>rfl) rfl (fun _=>rfl) (fun _=>rfl) rfl ?_ ?_ ?_
 ·skip
  repeat' (first|apply And.intro|(intro h;try exact cDd)|exact cSd|apply qb []|refine exr ?_|refine qj ?_)
 ·rintro k rest r ⟨rfl,hrl,hbeg⟩ hne hle
  have hu:=ki 10 rest
  have hpl:=jz 10 rest
  have hbg:=fun st=>zb1 (upto 10 rest) _ st (by omega) rfl
  unfold qjn
  by_cases hb:begF (upto 10 rest)=true
  ·rw [hb] at hbg
   have hv:((text.length:Int) - rest.length)=((jw text.length text:Nat):Int):=by
    rw [hbeg,qja hne hb]
    omega
   refine RA.mk fun S F ρ rd=>?_
   apply qd []
   repeat' (first|apply And.intro|(intro h;try exact cDd)|(refine RB.mk fun S rd=>?_;apply qd [])|exact⟨Tryz.call118⟩|refine cpe hbg ?_|(refine Exists.intro _ ⟨⟨rfl,hv⟩,?_⟩)|exact cSd|apply qb []|refine exr ?_|refine qj ?_)
  ·have hb':begF (upto 10 rest)=false:=by simpa using hb
   rw [hb'] at hbg
   refine RA.mk fun S F ρ rd=>?_
   apply qd []
   repeat' (first|apply And.intro|(intro h;try exact cDd)|(refine RB.mk fun S rd=>?_;apply qd [])|exact⟨Tryz.call118⟩|refine cpe hbg ?_|(refine Exists.intro 0 ⟨⟨rfl,by omega,by rw [hbeg,qkw hne (by rw [hb'];decide)]⟩,?_⟩)|exact cSd|apply qb []|refine exr ?_|refine qj ?_)
 ·rintro k r ⟨rfl,hrl,hbeg⟩
  rw [qdw] at hbeg
  rw [hbeg]
  repeat' (first|apply And.intro|(intro h;try exact cDd)|exact cSd|apply qb []|refine exr ?_|refine qj ?_)
 ·rintro c r ⟨rfl,rfl⟩
  repeat' (first|apply And.intro|(intro h;try exact cDd)|exact cSd|apply qb []|refine exr ?_|refine qj ?_)
theorem qjz {a b c:AV} (h1:Pure a) (h2:Pure b) (h3:Pure c):Pure (.tu [a,b,c]):=qdm fun z hz=>by
 simp only [List.mem_cons,List.not_mem_nil,or_false] at hz
 rcases hz with rfl|rfl|rfl
 ·exact h1
 ·exact h2
 ·exact h3
theorem qvn (b:List qq):qi4 (ku b):=fun y hy=>by
 simp only [AV.cells,List.mem_cons,List.not_mem_nil,or_false] at hy
 subst hy
 exact qic _
theorem qt2 (bs:List (List qq)):Pure (qd9 bs):=qbh fun x hx=>by
 obtain⟨b,_,rfl⟩:=List.mem_map.1 hx
 exact qvn b
theorem qcc (es:List Int):Pure (qbn es):=qbh fun x hx=>by
 obtain⟨b,_,rfl⟩:=List.mem_map.1 hx
 intro y hy
 simp only [AV.cells,List.mem_cons,List.not_mem_nil,or_false] at hy
 subst hy
 exact qu _
theorem qjb (b:v6):Pure (qb8 b):=qmm fun x hx=>by
 simp only [List.mem_cons,List.not_mem_nil,or_false] at hx
 rcases hx with rfl|rfl|rfl|rfl|rfl
 ·exact qu _
 ·exact qu _
 ·exact qt2 _
 ·exact qcc _
 ·exact qu _
def qkz (x:ErrV×v6):AV:=.tu [qb8 x.2,errA x.1]
theorem qx2 (x:ErrV×v6):Pure (qkz x):=jq (qjb _) (j6 _)
theorem qyq (text:qa) (st:List AObj) (hl:60000<text.length) (h2:text.length<1000000):ql E 23 [Sv text] st fun r st'=>r = .tu [wh [],errA (.num 1)]∧st'=st:=by
 refine z4 [.s text] (jq (qex _) (j6 _)) Tryz.func23 rfl rfl (fun _=>rfl) rfl fun S0=>?_
 apply qd []
 repeat' (first|apply And.intro|(intro h;try exact cDd)|exact cSd|apply qb []|refine exr ?_|refine qj ?_)
def itsE (text:qa):List qt:=if 60000<text.length then [] else (zn text).2
theorem qlx (text:qa) (st:List AObj) (hl:text.length<1000000):ql E 23 [Sv text] st fun r st'=>r = .tu [wh (itsE text),errA (ve text)]∧st'=st:=by
 unfold ve itsE
 by_cases hb:60000<text.length
 ·rw [if_pos hb,if_pos hb]
  exact qyq text st hb hl
 ·rw [if_neg hb,if_neg hb]
  have:=qoo text st (by omega)
  unfold qb6 at this
  rcases hp:(zn text).1 with _ | ⟨x,y⟩
  ·rw [hp] at this
   exact this
  ·rw [hp] at this
   exact this
theorem qvb (gen:Int) (base text:qa) (a:Nat) (hl:text.length<1000000) (ha:a≤text.length) (r:SV) (hp1:List (Nat×Option SR)) (nx1:Nat) (R:Bool×List (List qq)×List Int×qa) (hR:Go.Pl.recsF (text.length+1) (text.drop a) a [] []=R)
  (hok:R.1=false→r = .a (.v .nilIface)∧hp1=[(0,some (.cells 41 [.i gen,.s base,.tp 1,.tp 2,.s R.2.2.2])),(1,some (.tip 1 90 (R.2.1.map ku))),(2,some (.tip 1 3 (R.2.2.1.map fun x=>Iv x)))]∧nx1=3)
  (hbad:R.1=true→r = .a (errA (.at' R.2.1.length 10))∧hp1=[]∧nx1=1):kr E 66 [.bx 0 0,.s text,.i a] 1 (hpF [(0,some (.cells 41 [.i gen,.s base,.a zl,.a zl,.s []]))]) ⟨r,vb [(0,some (.cells 41 [.i gen,.s base,.a zl,.a zl,.s []]))],hp1++vl [(0,some (.cells 41 [.i gen,.s base,.a zl,.a zl,.s []]))],nx1⟩:=by
 refine wr [.bx 0 0,.s text,.i a] [(0,some (.cells 41 [.i gen,.s base,.a zl,.a zl,.s []]))] 1 r hp1 nx1 Tryz.func66 rfl rfl rfl ?_ fun S F ρ=>?_
 ·cases h:R.1 with
  |false=>obtain⟨rfl,rfl,rfl⟩:=hok h;rfl
  |true=>obtain⟨rfl,rfl,rfl⟩:=hbad h;rfl
 apply qd []
 repeat' (first|apply And.intro|(intro h;try exact cDd)|exact cSd|apply qb []|refine exr ?_|refine qj ?_)
 refine wm (X:=Nat×Nat×List (List qq)×List Int) (fun (k,f,bs,es)=>⟨[(0,.bx 0 0),(1,.s text),(2,.i k)],[(0,some (.cells 41 [.i gen,.s base,.tp 1,.tp 2,.s []])),(1,some (.tip 1 90 (bs.map ku))),(2,some (.tip 1 3 (es.map fun x=>Iv x)))],3⟩)
  (fun (k,f,bs,es)=>k≤text.length∧text.length - k<f∧Go.Pl.recsF f (text.drop k) k bs es=R∧bs.length≤k∧es.length≤k) (fun x=>text.length - x.1) (a,text.length+1,[],[]) ⟨ha,by omega,hR,by simp,by simp⟩ ?_ ?_
 ·skip
  repeat' (first|apply And.intro|(intro h;try exact cDd)|exact cSd|apply qb []|refine exr ?_|refine qj ?_)
 ·rintro⟨k,f,bs,es⟩ ⟨hk,hf,hR,hbl,hel⟩
  obtain⟨f,rfl⟩:∃ f',f=f'+1:=⟨f - 1,by omega⟩
  have hrd:=fun st=>zc3 (text.drop k) st (by simp;omega)
  have hll:(text.drop k).length=text.length - k:=by simp
  have hbd:=qt9 (l:=text.drop k)
  have hde:=fun st=>q6t (zq (text.drop k)).2.1 st (by omega)
  rcases q1v (text.drop k) with h1|h2|h3
  ·rw [h1] at hrd
   obtain⟨n',hn',hn0',hnl⟩:=q41 h1
   cases hdd:decF (zq (text.drop k)).2.1 with
   |none=>
    rw [q44 h1 hdd] at hR
    rw [hdd] at hde
    subst hR
    obtain⟨rfl,rfl,rfl⟩:=hbad rfl
    apply qd []
    repeat' (first|apply And.intro|(intro h;try exact cDd)|exact⟨Tryz.call119⟩|refine cpe hrd ?_|exact⟨Tryz.call120⟩|refine cpe hde ?_|exact cSd|apply qb []|refine exr ?_|refine qj ?_)
    rw [List.length_map]
    rfl
   |some b=>
    rw [q1z h1 hdd hn'] at hR
    rw [hdd] at hde
    rw [hn'] at hrd
    apply qd []
    repeat' (first|apply And.intro|(intro h;try exact cDd)|exact⟨Tryz.call119⟩|refine cpe hrd ?_|exact⟨Tryz.call120⟩|refine cpe hde ?_|(refine Exists.intro (k+n',f,bs++[b],es++[((k+n':Nat):Int)]) ⟨?_,by simp only;omega,?_⟩)|exact cSd|apply qb []|refine exr ?_|refine qj ?_)
    all_goals first|(rw [← hR,Int.natCast_add,List.drop_drop];done)|(simp;done)
  ·rw [h2] at hrd
   rw [q10 h2] at hR
   subst hR
   obtain⟨rfl,rfl,rfl⟩:=hok rfl
   cases hdd:decF (zq (text.drop k)).2.1 <;> rw [hdd] at hde
   all_goals
    apply qd []
    repeat' (first|apply And.intro|(intro h;try exact cDd)|exact⟨Tryz.call119⟩|refine cpe hrd ?_|exact⟨Tryz.call120⟩|refine cpe hde ?_|exact cSd|apply qb []|refine exr ?_|refine qj ?_)
  ·rw [h3] at hrd
   rw [q45 h3] at hR
   subst hR
   obtain⟨rfl,rfl,rfl⟩:=hbad rfl
   cases hdd:decF (zq (text.drop k)).2.1 <;> rw [hdd] at hde
   all_goals
    apply qd []
    repeat' (first|apply And.intro|(intro h;try exact cDd)|exact⟨Tryz.call119⟩|refine cpe hrd ?_|exact⟨Tryz.call120⟩|refine cpe hde ?_|exact cSd|apply qb []|refine exr ?_|refine qj ?_)
   all_goals
    rw [List.length_map]
    rfl
theorem qy6 (text:qa) (st:List AObj) (hl:text.length<1000000):ql E 22 [Sv text] st fun r st'=>r=qkz (ja text)∧st'=st:=by
 refine z4 [.s text] (qx2 _) Tryz.func22 rfl rfl (fun _=>rfl) rfl fun S0=>?_
 by_cases hbig:120000<text.length
 ·have e:ja text=(.num 1,qev):=if_pos hbig
  rw [e]
  apply qd []
  repeat' (first|apply And.intro|(intro h;try exact cDd)|exact cSd|apply qb []|refine exr ?_|refine qj ?_)
 have hsp:=qe4 text
 have hrl:(xa text).2.length≤text.length:=by
  conv=>rhs;rw [hsp.1]
  simp
 have hbl:=qu9 (xa text).2
 obtain⟨g,rest,htk⟩:∃ g rest,xa text=(g,rest):=⟨_,_,rfl⟩
 have hF:ja text=match ve (rest.take (jw rest.length rest)) with
   | .no=>if (Go.Pl.recsF (text.length+1) (rest.drop (jw rest.length rest)) (((text.length - rest.length+jw rest.length rest:Nat)):Int) [] []).1=true then (.at' (Go.Pl.recsF (text.length+1) (rest.drop (jw rest.length rest)) (((text.length - rest.length+jw rest.length rest:Nat)):Int) [] []).2.1.length 10,qev)
    else (.no,⟨g,rest.take (jw rest.length rest),(Go.Pl.recsF (text.length+1) (rest.drop (jw rest.length rest)) (((text.length - rest.length+jw rest.length rest:Nat)):Int) [] []).2.1,(Go.Pl.recsF (text.length+1) (rest.drop (jw rest.length rest)) (((text.length - rest.length+jw rest.length rest:Nat)):Int) [] []).2.2.1,(Go.Pl.recsF (text.length+1) (rest.drop (jw rest.length rest)) (((text.length - rest.length+jw rest.length rest:Nat)):Int) [] []).2.2.2⟩)
   |e=>(e,qev):=by
  unfold ja
  rw [if_neg hbig]
  unfold qbq qfx atH qaj
  rw [htk]
  try rfl
 have htk2:∀ st,ql E 29 [Sv text] st fun r st'=>r = .tu [Iv g,Sv rest]∧st'=st:=fun st=>by
  have:=zae text st hl
  rw [htk] at this
  exact this
 rw [htk] at hrl hbl hsp
 simp only at hrl hbl hsp
 have hdr:rest.drop (jw rest.length rest)=text.drop (text.length - rest.length+jw rest.length rest):=by
  have h1:text.length=(ka g).length+rest.length:=by
   have:=congrArg List.length hsp.1
   simpa using this
  conv=>rhs;rhs;rw [hsp.1]
  rw [← List.drop_drop,show text.length - rest.length=(ka g).length by omega,List.drop_left]
 rw [hdr] at hF
 clear hdr hsp htk
 have hbg:=fun st=>q6h rest st (by omega)
 generalize jw rest.length rest=a at hF hbl hbg
 have hpa:=fun st=>qlx (rest.take a) st (by simp;omega)
 have hsub:((text.length:Int) - (rest.length:Int))+(a:Int)=((text.length - rest.length+a:Nat):Int):=by omega
 rw [show (((text.length - rest.length+a:Nat)):Int)=(((text.length - rest.length+a:Nat)):Int) from rfl] at hF
 obtain⟨R,hR⟩:∃ R,Go.Pl.recsF (text.length+1) (text.drop (text.length - rest.length+a)) ((text.length - rest.length+a:Nat):Int) [] []=R:=⟨_,rfl⟩
 rw [hR] at hF
 have hok:=fun h=>qvb g (rest.take a) text (text.length - rest.length+a) hl (by omega) (.a (.v .nilIface)) [(0,some (.cells 41 [.i g,.s (rest.take a),.tp 1,.tp 2,.s R.2.2.2])),(1,some (.tip 1 90 (R.2.1.map ku))),(2,some (.tip 1 3 (R.2.2.1.map fun x=>Iv x)))] 3 R hR (fun _=>⟨rfl,rfl,rfl⟩) h
 have hbad:=fun h=>qvb g (rest.take a) text (text.length - rest.length+a) hl (by omega) (.a (errA (.at' R.2.1.length 10))) [] 1 R hR h (fun _=>⟨rfl,rfl,rfl⟩)
 generalize itsE (rest.take a)=its at hpa
 cases hpe:ve (rest.take a) with
 |no=>
  rw [hpe] at hF hpa
  simp only at hF
  by_cases hR1:R.1=true
  ·rw [if_pos hR1] at hF
   rw [hF]
   apply qd []
   repeat' (first|apply And.intro|(intro h;try exact cDd)|exact⟨Tryz.call29⟩|refine cpe htk2 ?_|exact⟨Tryz.call65⟩|refine cpe hbg ?_|exact⟨Tryz.call23⟩|refine cpe hpa ?_|exact⟨Tryz.call66⟩|(refine z6 (hbad fun h=>by rw [hR1] at h;simp at h) ?_)|exact cSd|apply qb []|refine exr ?_|refine qj ?_)
   all_goals exact congrArg Iv hsub
  ·rw [if_neg hR1] at hF
   rw [hF]
   apply qd []
   repeat' (first|apply And.intro|(intro h;try exact cDd)|exact⟨Tryz.call29⟩|refine cpe htk2 ?_|exact⟨Tryz.call65⟩|refine cpe hbg ?_|exact⟨Tryz.call23⟩|refine cpe hpa ?_|exact⟨Tryz.call66⟩|(refine z6 (hok fun h=>absurd h hR1) ?_)|exact cSd|apply qb []|refine exr ?_|refine qj ?_)
   all_goals exact congrArg Iv hsub
 |num n=>
  rw [hpe] at hF hpa
  have hF2:ja text=(.num n,qev):=hF
  rw [hF2]
  apply qd []
  repeat' (first|apply And.intro|(intro h;try exact cDd)|exact⟨Tryz.call29⟩|refine cpe htk2 ?_|exact⟨Tryz.call65⟩|refine cpe hbg ?_|exact⟨Tryz.call23⟩|refine cpe hpa ?_|exact cSd|apply qb []|refine exr ?_|refine qj ?_)
 |at' p n=>
  rw [hpe] at hF hpa
  have hF2:ja text=(.at' p n,qev):=hF
  rw [hF2]
  apply qd []
  repeat' (first|apply And.intro|(intro h;try exact cDd)|exact⟨Tryz.call29⟩|refine cpe htk2 ?_|exact⟨Tryz.call65⟩|refine cpe hbg ?_|exact⟨Tryz.call23⟩|refine cpe hpa ?_|exact cSd|apply qb []|refine exr ?_|refine qj ?_)
theorem q69 (n:Int):(ka n).length≤100:=by
 unfold ka
 split
 ·rename_i h
  have:=qhz h
  omega
 ·simp
theorem q6n (b:v6) (st:List AObj) (hb:b.base.length<1000000) (he:b.ends.length<1000000):ql E 101 [qb8 b] st fun r st'=>r=Iv (qaa b)∧st'=st:=by
 have hh:=q69 b.gen
 have hle:=fun st=>zch b.gen st
 refine z4 [.a (qb8 b)] (qu _) Tryz.func101 rfl rfl (fun _=>rfl) rfl fun S0=>?_
 by_cases h0:b.ends=[]
 ·have e:qaa b=((ka b.gen).length:Int)+(b.base.length:Int):=by simp [qaa,h0]
  rw [e]
  have hl0:(b.ends.map fun x=>Iv x).length=0:=by simp [h0]
  apply qd []
  repeat' (first|apply And.intro|(intro h;try exact cDd)|exact⟨Tryz.call166⟩|refine cpe hle ?_|exact cSd|apply qb []|refine exr ?_|refine qj ?_)
 ·obtain⟨x,hx⟩:∃ x,b.ends.getLast? = some x:=by
   cases h:b.ends.getLast? with
   |none=>exact absurd (List.getLast?_eq_none_iff.1 h) h0
   |some x=>exact⟨x,rfl⟩
  have e:qaa b=x:=by simp [qaa,hx]
  rw [e]
  have hl0:0<b.ends.length:=List.length_pos_iff.2 h0
  have hml:(b.ends.map fun x=>Iv x).length=b.ends.length:=by simp
  have hg:(b.ends.map fun x=>Iv x)[b.ends.length - 1]? = some (Iv x):=by
   rw [List.getLast?_eq_getElem?] at hx
   simp [hx]
  apply qd []
  repeat' (first|apply And.intro|(intro h;try exact cDd)|exact⟨Tryz.call166⟩|refine cpe hle ?_|(refine Exists.intro (b.ends.length - 1) ⟨by omega,_,hg,?_⟩)|exact cSd|apply qb []|refine exr ?_|refine qj ?_)
theorem q6k (gen:Int) (text:qa) (st:List AObj) (hl:text.length<1000000):ql E 56 [Iv gen,Sv text] st fun r st'=>r = .tu [Sv (qct gen text).2,errA (qct gen text).1]∧st'=st:=by
 refine z4 [.i gen,.s text] (jq (qu _) (j6 _)) Tryz.func56 rfl rfl (fun _=>rfl) rfl fun S0=>?_
 have hpa:=fun st=>qlx text st hl
 unfold qct
 by_cases hg:gen≠0∧¬ jn gen
 ·rw [if_pos hg]
  have hpu:=fun st=>zad gen text st hg.1 hg.2
  apply qd []
  repeat' (first|apply And.intro|(intro h;try exact cDd)|exact⟨Tryz.call110⟩|refine cpe hpu ?_|exact cSd|apply qb []|refine exr ?_|refine qj ?_)
 ·rw [if_neg hg]
  have hpu:=fun st=>zci gen text st (Classical.byContradiction fun h=>hg ⟨fun h0=>h (.inl h0),fun h1=>h (.inr h1)⟩) hl
  cases hpe:ve text with
  |no=>
   rw [hpe] at hpa
   apply qd []
   repeat' (first|apply And.intro|(intro h;try exact cDd)|exact⟨Tryz.call110⟩|refine cpe hpu ?_|exact⟨Tryz.call23⟩|refine cpe hpa ?_|exact cSd|apply qb []|refine exr ?_|refine qj ?_)
  |num n=>
   rw [hpe] at hpa
   apply qd []
   repeat' (first|apply And.intro|(intro h;try exact cDd)|exact⟨Tryz.call110⟩|refine cpe hpu ?_|exact⟨Tryz.call23⟩|refine cpe hpa ?_|exact cSd|apply qb []|refine exr ?_|refine qj ?_)
  |at' p n=>
   rw [hpe] at hpa
   apply qd []
   repeat' (first|apply And.intro|(intro h;try exact cDd)|exact⟨Tryz.call110⟩|refine cpe hpu ?_|exact⟨Tryz.call23⟩|refine cpe hpa ?_|exact cSd|apply qb []|refine exr ?_|refine qj ?_)
theorem qtn:∀ r:List (List qq),r.length≤(ke r).length
 | []=>by simp [ke]
 |b::r=>by
  have:=qtn r
  have h1:=qok b
  rw [x4]
  simp
  omega
structure zdh (text:qa) (b:v6):Prop where
 base:b.base.length<1000000
 tail:b.tail.length<1000000
 ends : b.ends.length < 1000000
 whole:qaa b=((xt b).length:Int)
 wlen:(xt b).length≤text.length
 size:qaa b+b.tail.length=text.length
theorem qx3 {text:qa} {b:v6} (h:x9 text b):zdh text b:=by
 have h1:=congrArg List.length h.split
 have h2:=h.len
 have h3:=qtn b.batches
 have h4:=h.whole
 simp only [List.length_append,xt] at h1
 refine⟨by omega,by omega,by rw [h.ends,qk5];omega,h4,by simp only [xt,List.length_append];omega,?_⟩
 rw [h4]
 simp only [xt,List.length_append]
 omega
theorem zb0 (text:qa) (x:List qq) (st:List AObj) (hl:text.length<1000000) (hB:∀ y∈x,EdB y) (hx:x.length<1000000):ql E 53 [Sv text,ku x] st fun r st'=>r = .tu [Sv (Go.Pl.appF text x).2,errA (Go.Pl.appF text x).1]∧st'=st:=by
 refine z4 [.s text,.a (ku x)] (jq (qu _) (j6 _)) Tryz.func53 rfl rfl (fun _=>rfl) rfl fun S0=>?_
 have hbr:=fun st=>qy6 text st hl
 unfold Go.Pl.appF
 have hbk:ja text=((ja text).1,(ja text).2):=rfl
 cases hbe:(ja text).1 with
 |no=>
  rw [hbe] at hbk
  have hT:=qgp hbk
  have hS:=qx3 hT
  obtain⟨hs1,hs2,hs3,hs4,hs5,hs6⟩:=hS
  rw [hbk] at hbr
  generalize (ja text).2=b at hbr hT hs1 hs2 hs3 hs4 hs5 hs6
  unfold qkz at hbr
  have hwh:=fun st=>q6n b st hs1 hs3
  rw [hs4] at hwh
  simp only [hs4,Int.toNat_natCast]
  have htl:=hT.len
  cases hee:eErr x with
  |no=>
   have hen:=fun st=>qs0 x st hB hee
   by_cases h5:50000<(encF x).length
   ·simp only [if_pos h5]
    apply qd []
    repeat' (first|apply And.intro|(intro h;try exact cDd)|exact⟨Tryz.call22⟩|refine cpe hbr ?_|exact⟨Tryz.call103⟩|refine cpe hen ?_|exact cSd|apply qb []|refine exr ?_|refine qj ?_)
   ·simp only [if_neg h5]
    have hgx:qcw x:=⟨hee,hB,by omega⟩
    have hrc:=fun st=>q43 (encF x) st (by omega) hgx.good
    have hrl:=q1w hgx.good
    have hre:recF (encF x)=recE x:=rfl
    rw [hre] at hrc hrl
    by_cases h12:(120000:Int)<((xt b).length:Int)+((recE x).length:Int)
    ·rw [if_pos h12]
     apply qd []
     repeat' (first|apply And.intro|(intro h;try exact cDd)|exact⟨Tryz.call22⟩|refine cpe hbr ?_|exact⟨Tryz.call103⟩|refine cpe hen ?_|exact⟨Tryz.call104⟩|refine cpe hrc ?_|exact⟨Tryz.call101⟩|refine cpe hwh ?_|exact cSd|apply qb []|refine exr ?_|refine qj ?_)
    ·rw [if_neg h12]
     apply qd []
     repeat' (first|apply And.intro|(intro h;try exact cDd)|exact⟨Tryz.call22⟩|refine cpe hbr ?_|exact⟨Tryz.call103⟩|refine cpe hen ?_|exact⟨Tryz.call104⟩|refine cpe hrc ?_|exact⟨Tryz.call101⟩|refine cpe hwh ?_|exact cSd|apply qb []|refine exr ?_|refine qj ?_)
  |num n=>
   have hen:=fun st=>qhr x st _ hB (by omega) hee (fun h=>by have:=(qhp x).1 (by rw [hee];exact h);rw [hee] at this;simp at this)
   apply qd []
   repeat' (first|apply And.intro|(intro h;try exact cDd)|exact⟨Tryz.call22⟩|refine cpe hbr ?_|exact⟨Tryz.call103⟩|refine cpe hen ?_|exact cSd|apply qb []|refine exr ?_|refine qj ?_)
  |at' p n=>
   have hen:=fun st=>qhr x st _ hB (by omega) hee (fun h=>by have:=(qhp x).1 (by rw [hee];exact h);rw [hee] at this;simp at this)
   apply qd []
   repeat' (first|apply And.intro|(intro h;try exact cDd)|exact⟨Tryz.call22⟩|refine cpe hbr ?_|exact⟨Tryz.call103⟩|refine cpe hen ?_|exact cSd|apply qb []|refine exr ?_|refine qj ?_)
 |num n=>
  rw [hbe] at hbk
  rw [hbk] at hbr
  unfold qkz at hbr
  apply qd []
  repeat' (first|apply And.intro|(intro h;try exact cDd)|exact⟨Tryz.call22⟩|refine cpe hbr ?_|exact cSd|apply qb []|refine exr ?_|refine qj ?_)
 |at' p n=>
  rw [hbe] at hbk
  rw [hbk] at hbr
  unfold qkz at hbr
  apply qd []
  repeat' (first|apply And.intro|(intro h;try exact cDd)|exact⟨Tryz.call22⟩|refine cpe hbr ?_|exact cSd|apply qb []|refine exr ?_|refine qj ?_)
theorem q3s (gen:Int) (text:qa):qct gen text=if gen≠0∧¬ jn gen then (.num 1,[]) else if ve text = .no then (.no,ka gen++text) else (ve text,[]):=by
 unfold qct
 split
 ·rfl
 ·cases ve text <;> simp
end Go.Proofs.YtneejjefekdgjaaGreatDoor
namespace Go.Pl
open Go Go.Proofs
structure EntV where
 x:qt
 id:Int
structure qs where
 ents:List EntV
 next:Int
 many:Int
def vq (l:qs) (x:qt):qs:=if x.kind=3 then⟨l.ents++[⟨x,l.next⟩],l.next+1,l.many+1⟩ else⟨l.ents++[⟨x,0⟩],l.next,l.many⟩
def ofF (its:List qt):qs:=its.foldl vq ⟨[],1,0⟩
end Go.Pl
namespace Go.Proofs.YtneejjefekdgjaaGreatDoor
open Go Go.Av Go.RowKit Go.Proofs Go.Pl
@[reducible] def entA (e : EntV) : AV := .ag [Iv e.x.kind, Sv e.x.raw, vm e.x.fields, Iv e.id]
@[reducible] def jx (l : qs) : AV := .pp [.sl 4 (l.ents.map entA) none, Iv l.next, Iv l.many]
def qqb (e:ErrV) (l:qs):AV:=match e with
 | .no=>.tu [jx l,errA .no]
 |e=>.tu [.v (.pointer none),errA e]
theorem q03 (e:EntV):qi4 (entA e):=fun y hy=>by
 simp only [AV.cells,List.mem_cons,List.not_mem_nil,or_false] at hy
 rcases hy with rfl|rfl|rfl|rfl
 ·exact qu _
 ·exact qu _
 ·exact qa3 _
 ·exact qu _
theorem qf6 (l:qs):Pure (jx l):=qry fun x hx=>by
 simp only [List.mem_cons,List.not_mem_nil,or_false] at hx
 rcases hx with rfl|rfl|rfl
 ·exact qbh fun x hx=>by
   obtain⟨f,_,rfl⟩:=List.mem_map.1 hx
   exact q03 f
 ·exact qu _
 ·exact qu _
theorem qih (e:ErrV) (l:qs):Pure (qqb e l):=by
 cases e with
 |no=>exact jq (qf6 l) (j6 _)
 |num n=>exact jq (qu _) (j6 _)
 |at' a n=>exact jq (qu _) (j6 _)
theorem qgc:∀ (n:Nat) (rest:qa) (k:Nat) (p:PSt),rest.length≤n→PB (4 * k) p→k+rest.length≤60000→(runL k (zb rest) p).2.items.length≤300000:=by
 have nil:∀ (k:Nat) (p:PSt),PB (4 * k) p→k≤60000→(runL k (zb []) p).2.items.length≤300000:=fun k p hB hk=>by
  have e:z0 p 0 [] true 1=endP p:=rfl
  have h:=qhg (no:=0) (text:=[]) (ended:=true) (kind:=1) hB (by omega) (by simp)
  rw [e] at h
  have e2:runL k (zb []) p=endP p:=by rw [kq];rfl
  rw [e2]
  have:=h.items
  omega
 intro n
 induction n with
 |zero=>
  intro rest k p hr hB hk
  obtain rfl:rest=[]:=List.eq_nil_of_length_eq_zero (by omega)
  exact nil k p hB (by simpa using hk)
 |succ n ih=>
  intro rest k p hr hB hk
  by_cases hne:rest=[]
  ·subst hne
   exact nil k p hB (by simpa using hk)
  ·have hu:=ki 10 rest
   have hpl:=jz 10 rest
   have hr0:0<rest.length:=List.length_pos_iff.2 hne
   rw [vk hne]
   simp only [runL]
   have hB2:=qoq (no:=k) (text:=upto 10 rest) (ended:=decide (10∈rest)) hB (by omega) (by omega)
   split
   ·have:=hB.items
    simp only
    omega
   ·exact ih (past 10 rest) (k+1) _ (by omega) hB2 (by omega)
theorem qv9 (text:qa):(itsE text).length≤300000:=by
 unfold itsE
 split
 ·simp
 ·have h:=qgc text.length text 0 p0 (Nat.le_refl _) quj (by omega)
  unfold zn
  split
  ·simp
  ·exact h
theorem q7i (text:qa) (st:List AObj) (hl:text.length<1000000):ql E 35 [Sv text] st fun r st'=>r=qqb (ve text) (ofF (itsE text))∧st'=st:=by
 refine qjy [.s text] (qih _ _) Tryz.func35 rfl rfl (fun _=>rfl) rfl fun S0=>?_
 have hp:=fun st=>qlx text st hl
 have hil:=qv9 text
 generalize itsE text=its at hp hil
 cases he:ve text with
 |num n=>
  rw [he] at hp
  apply qd [19]
  repeat' (first|apply And.intro|(intro h;try exact cDd)|exact⟨Tryz.call23⟩|refine cpe hp ?_|exact cSd|apply qb [19]|refine exr ?_|refine qj ?_)
 |at' a n=>
  rw [he] at hp
  apply qd [19]
  repeat' (first|apply And.intro|(intro h;try exact cDd)|exact⟨Tryz.call23⟩|refine cpe hp ?_|exact cSd|apply qb [19]|refine exr ?_|refine qj ?_)
 |no=>
  rw [he] at hp
  apply qd [19]
  repeat' (first|apply And.intro|(intro h;try exact cDd)|exact⟨Tryz.call23⟩|refine cpe hp ?_|exact cSd|apply qb [19]|refine exr ?_|refine qj ?_)
  refine wm (X:=Nat×qs) (fun (k,l)=>⟨[(6,.bx 0 0),(20,.a (wh its)),(21,.i its.length),(22,.i k)],[(0,some (.cells 156 [.tp 1,.i l.next,.i l.many])),(1,some (.tip 4 152 (l.ents.map entA)))],2⟩)
   (fun (k,l)=>k≤its.length∧l.ents.length=k∧(1≤l.next∧l.next≤k+1∧0≤l.many∧l.many≤k)∧(its.drop k).foldl vq l=ofF its) (fun (k,l)=>its.length - k) (0,⟨[],1,0⟩) ⟨by omega,rfl,⟨by decide,by decide,by decide,by decide⟩,rfl⟩ ?_ ?_
  ·skip
   repeat' (first|apply And.intro|(intro h;try exact cDd)|exact cSd|apply qb []|refine exr ?_|refine qj ?_)
   all_goals (simp;done)
  ·rintro⟨k,l⟩ ⟨hk,hlk,hnx,hrun⟩
   by_cases hkn:k<its.length
   ·have hx:its[k]? = some its[k]:=List.getElem?_eq_getElem hkn
    have hxm:(its.map vh)[k]? = some (vh its[k]):=by rw [List.getElem?_map,hx];rfl
    rw [List.drop_eq_getElem_cons hkn,List.foldl_cons] at hrun
    have hml:(l.ents.map entA).length=l.ents.length:=by simp
    generalize its[k]=x at hx hxm hrun
    by_cases hk3:x.kind=3
    ·have e:vq l x=⟨l.ents++[⟨x,l.next⟩],l.next+1,l.many+1⟩:=if_pos hk3
     rw [e] at hrun
     apply qd []
     repeat' (first|apply And.intro|(intro h;try exact cDd)|(refine Exists.intro (k) ⟨by omega,_,hxm,?_⟩)|(refine Exists.intro (k+1,⟨l.ents++[⟨x,l.next⟩],l.next+1,l.many+1⟩) ⟨⟨by omega,by simp [hlk],by simp only;omega,hrun⟩,by simp only;omega,?_⟩)|exact cSd|apply qb []|refine exr ?_|refine qj ?_)
     all_goals (simp;done)
    ·have e:vq l x=⟨l.ents++[⟨x,0⟩],l.next,l.many⟩:=if_neg hk3
     rw [e] at hrun
     apply qd []
     repeat' (first|apply And.intro|(intro h;try exact cDd)|(refine Exists.intro (k) ⟨by omega,_,hxm,?_⟩)|(refine Exists.intro (k+1,⟨l.ents++[⟨x,0⟩],l.next,l.many⟩) ⟨⟨by omega,by simp [hlk],by simp only;omega,hrun⟩,by simp only;omega,?_⟩)|exact cSd|apply qb []|refine exr ?_|refine qj ?_)
     all_goals (simp;done)
   ·have hkn:k=its.length:=by omega
    subst hkn
    rw [List.drop_length] at hrun
    have e:ofF its=l:=hrun.symm
    rw [e]
    apply qd []
    repeat' (first|apply And.intro|(intro h;try exact cDd)|exact cSd|apply qb []|refine exr ?_|refine qj ?_)
end Go.Proofs.YtneejjefekdgjaaGreatDoor
namespace Go.Av
open Go Go.RowKit
theorem qh9 {E:Env} {rd:Option Nat} {N:Nat} {ops:Array Oper} {K:AS→Prop} {s:AS} {rest:List Oper} {d:Option Tmp} {T:TypeId} {p:String} {af:Array Edge} {x:Operand} {t t' te:TypeId} {sz:Nat} {xs:List AV} {tip:Option Nat} (hx:qe N s x = .sl sz xs tip) (hu:E.P.underlying t=some (.slice te))
  (h1:xs=[]→AOps E rd N ops rest K (s.put d (Bv true))) (h2:AOps E rd N ops rest K (s.put d (Bv false))):AOps E rd N ops (⟨d,.binOp .eql t x (.const (.slice none 0 0)) t',T,p,af,none⟩::rest) K s:=by
 refine qy rfl (qw nofun fun B0 w0 G a w _ hI=>?_)
 have he:=hI.eval_of hx
 have key:∃ q n c,a.eval x = .slice q n c∧(q.isNone=true→xs=[]):=by
  generalize a.eval x=u at he
  cases he with
  |sl0=>exact⟨_,_,_,rfl,fun _=>rfl⟩
  |sl=>exact⟨_,_,_,rfl,fun h=>by simp at h⟩
 obtain⟨q,n,c,hv,hq0⟩:=key
 have hc:a.eval (.const (.slice none 0 0)) = .slice none 0 0:=rfl
 have hq:=Lib.run_eql_slice_nil (P:=E.P) w t te q n c 0 0 hu
 refine⟨_,w,G,.v (.bool q.isNone),s.st,?_,.refl G,hI.agree,.v _,?_⟩
 ·generalize a.eval = ρ at hv hc
  simp [execOp,hv,hc,eqGuard_at_slice,hq]
 ·cases hb:q.isNone with
  |true=>exact h1 (hq0 hb)
  |false=>exact h2
theorem qa8.len0 {c:AV} (h:qa8 c):∀ (G:Gh) (v:Value),Rel G c v→∃ b n cp,v = .slice b n cp∧n≤cp:=fun G v hv=>by
 obtain⟨base,rfl⟩:=h.val G v hv
 exact⟨_,_,_,rfl,Nat.le_refl _⟩
end Go.Av
namespace Go.Proofs.YtneejjefekdgjaaGreatDoor
open Go Go.Av Go.RowKit Go.Proofs Go.Pl
theorem qf0 (fs:List Fld) (st:List AObj) (hl:fs.length<1000000):ql E 71 [vm fs] st fun r st'=>r=vm fs∧st'=st:=by
 refine q6 (qa3 _) (qp Tryz.func71 rfl (Nat.le_of_ble_eq_true rfl) ?_)
 have hml:(fs.map fldA).length=fs.length:=by simp
 rw [List.append_nil]
 repeat' (first|(apply qax (st:=st);(iterate 6 exact rfl))|(apply qh9;exact rfl;exact rfl;intro h0)|apply qm|apply qg|apply qf|apply qk|apply qh|(apply qc;exact rfl;apply cd_t;exact cRa)|(apply qc;exact rfl;apply cd_f;exact cRa)|apply qz|apply qx|(apply qgm (b:=st.length) (xs:=[]) (ys:=fs.map fldA) (bytes:=32);(iterate 5 exact rfl);exact⟨⟨_,_,rfl,rfl,rfl,rfl,rfl⟩⟩;(focus (repeat' (first|assumption|exact qxk _ _ _ _|exact qzx _ _ _ _ _ _ _|apply qot|apply qtt|(refine x7 (T:=_) (ver:=_) (cs:=_) ?_)|exact wt|exact jb rfl|apply js|apply j9|omega|apply qac)));(exact qej);(first|exact rfl|exact qav fun _=>rfl);((simp [maxLen];omega));((simp;omega));intro c' S' t1 g1 g2 g3 g4))
 ·exact qo rfl (wn (zi rfl) (fun G v h=>by
   rw [vm,h0]
   exact qau h)) ⟨rfl,_,(List.append_nil st).symm⟩
 ·exact qo rfl (wn (zi rfl) (qj2 g1)) ⟨rfl,qrq fun j hj=>(g2.same j (by omega) (Nat.lt_of_lt_of_le hj qej)).trans (List.getElem?_append_left hj)⟩
theorem q0p (es:List EntV) (st:List AObj) (hl:es.length<1000000):ql E 153 [.sl 4 (es.map entA) none] st fun r st'=>OwnR 4 152 (es.map entA) st (.v undef) r st':=by
 refine qp Tryz.func153 rfl (Nat.le_of_ble_eq_true rfl) ?_
 have hml:(es.map entA).length=es.length:=by simp
 rw [List.append_nil]
 by_cases he:es=[]
 ·subst he
  repeat' (first|(apply qax (st:=st);(iterate 6 exact rfl))|(apply qh9;exact rfl;exact rfl;intro h0)|(apply qkq (c:=.os st.length 0 0 0 0);exact rfl;exact (qlm _ _ _).len0;exact fun _ _ h=>h;exact rfl;exact rfl;exact⟨⟨_,_,rfl,rfl,rfl,rfl,rfl⟩⟩)|apply qm|apply qg|apply qf|apply qk|apply qh|(apply qc;exact rfl;apply cd_t;exact cRa)|(apply qc;exact rfl;apply cd_f;exact cRa)|apply qz|apply qx)
  ·exact qo rfl (zi rfl) ⟨.inl ⟨rfl,qof none⟩,Nat.le_refl _,fun _ _ _=>rfl,fun o ho=>by
   have ho:(none:Option Nat)=some o:=ho
   simp at ho⟩
  ·exact qo rfl (zi rfl) ⟨.inl ⟨rfl,qlm _ _ _⟩,qej,fun j hj _=>List.getElem?_append_left hj,fun o ho=>by
   have ho:(none:Option Nat)=some o:=ho
   simp at ho⟩
 ·have hne:es.map entA≠[]:=by simpa using he
  repeat' (first|(apply qax (st:=st);(iterate 6 exact rfl))|(apply qh9;exact rfl;exact rfl;intro h0)|(refine qc2 (ys:=es.map entA) (bytes:=56) (qlm _ _ _).val (fun _ _ h=>h) rfl rfl ⟨⟨_,_,rfl,rfl,rfl,rfl,rfl⟩⟩ (qav fun _=>rfl) hne (by simp [maxLen];omega) (by simp;omega) fun cap pad q1 q2 q3 q4=>?_)|apply qm|apply qg|apply qf|apply qk|apply qh|(apply qc;exact rfl;apply cd_t;exact cRa)|(apply qc;exact rfl;apply cd_f;exact cRa)|apply qz|apply qx)
  ·exact absurd h0 hne
  ·refine qo rfl (zi rfl) ⟨.inr ⟨_,0,cap,pad,rfl,wt,q1,q2,q3,q4⟩,Nat.le_trans qej qej,fun j hj _=>?_,fun o ho=>?_⟩
   ·show ((st++[_])++[_])[j]? = _
    rw [List.getElem?_append_left (by simp;omega),List.getElem?_append_left hj]
   ·have ho':some (st++[AObj.cells 0 152 []]).length=some o:=ho
    simp only [Option.some.injEq] at ho'
    left
    rw [← ho']
    simp
end Go.Proofs.YtneejjefekdgjaaGreatDoor
namespace Go.Pl
open Go Go.Proofs
def vr (id:Int):Nat→List EntV→Int
 | _,[]=> -1
 |k,e::r=>if e.id=id then (k:Int) else vr id (k+1) r
def atF (l:qs) (id:Int):Int:=if id<1 then -1 else vr id 0 l.ents
theorem qp3 (id:Int):∀ (es:List EntV) (k:Nat),vr id k es = -1∨∃ i e,vr id k es=((k+i:Nat):Int)∧es[i]? = some e∧e.id=id
 | [],k=>.inl rfl
 |e::r,k=>by
  unfold vr
  by_cases h:e.id=id
  ·rw [if_pos h]
   exact .inr ⟨0,e,by simp,rfl,h⟩
  ·rw [if_neg h]
   rcases qp3 id r (k+1) with g | ⟨i,e',g1,g2,g3⟩
   ·exact .inl g
   ·exact .inr ⟨i+1,e',by rw [g1];congr 1;omega,by simpa using g2,g3⟩
theorem qgo (l:qs) (id:Int):atF l id = -1∨∃ (i:Nat) (e:EntV),atF l id=(i:Int)∧l.ents[i]? = some e∧e.id=id∧1≤id:=by
 unfold atF
 by_cases h:id<1
 ·exact .inl (if_pos h)
 ·rw [if_neg h]
  rcases qp3 id l.ents 0 with g | ⟨i,e,g1,g2,g3⟩
  ·exact .inl g
  ·exact .inr ⟨i,e,by rw [g1];congr 1;omega,g2,g3,by omega⟩
def rawF (l:qs) (id:Int):qa×Bool:=match l.ents[(atF l id).toNat]? with
 |some e=>if atF l id<0 then ([],false) else (e.x.raw,true)
 |none=>([],false)
end Go.Pl
namespace Go.Proofs.YtneejjefekdgjaaGreatDoor
open Go Go.Av Go.RowKit Go.Proofs Go.Pl
theorem q81 (e:EntV) (id:Int) (st:List AObj):ql E 136 [entA e,.pp [Iv id]] st fun r st'=>r=Bv (decide (e.id=id))∧st'=st:=by
 refine z4 [.a (entA e),.a (.pp [Iv id])] (qu _) Tryz.func136 rfl rfl (fun _=>rfl) rfl fun S0=>?_
 apply qd []
 repeat' (first|apply And.intro|(intro h;try exact cDd)|exact cSd|apply qb []|refine exr ?_|refine qj ?_)
@[reducible] def atFn (id : Int) : SV := .fn (.func 136) [] [.a (.pp [Iv id])]
theorem zaf (es:List EntV) (id:Int) (st:List AObj) (hl:es.length<1000000):ql E 135 [.sl 4 (es.map entA) none,.fn (.func 136) [] [.pp [Iv id]]] st fun r st'=>r=Iv (vr id 0 es)∧st'=st:=by
 refine z4 [.a (.sl 4 (es.map entA) none),atFn id] (qu _) Tryz.func135 rfl rfl (fun _=>rfl) rfl fun S0=>?_
 apply qd []
 repeat' (first|apply And.intro|(intro h;try exact cDd)|exact cSd|apply qb []|refine exr ?_|refine qj ?_)
 refine wm (X:=Nat) (fun k=>⟨[(0,.a (.sl 4 (es.map entA) none)),(1,atFn id),(7,.i es.length),(8,.i k)],[],0⟩) (fun k=>k≤es.length∧vr id k (es.drop k)=vr id 0 es) (fun k=>es.length - k) 0 ⟨by omega,by simp⟩ ?_ ?_
 ·skip
  repeat' (first|apply And.intro|(intro h;try exact cDd)|exact cSd|apply qb []|refine exr ?_|refine qj ?_)
  all_goals (simp;done)
 ·rintro k ⟨hk,hrun⟩
  by_cases hkn:k<es.length
  ·have hx:es[k]? = some es[k]:=List.getElem?_eq_getElem hkn
   have hxm:(es.map entA)[k]? = some (entA es[k]):=by rw [List.getElem?_map,hx];rfl
   rw [List.drop_eq_getElem_cons hkn,vr] at hrun
   generalize es[k]=e at hx hxm hrun
   have h1:=fun st=>q81 e id st
   by_cases hid:e.id=id
   ·rw [if_pos hid] at hrun
    rw [decide_eq_true hid] at h1
    rw [← hrun]
    apply qd []
    repeat' (first|apply And.intro|(intro h;try exact cDd)|(refine Exists.intro (k) ⟨by omega,_,hxm,?_⟩)|exact⟨Tryz.call136⟩|refine cpe h1 ?_|exact cSd|apply qb []|refine exr ?_|refine qj ?_)
   ·rw [if_neg hid] at hrun
    rw [decide_eq_false hid] at h1
    apply qd []
    repeat' (first|apply And.intro|(intro h;try exact cDd)|(refine Exists.intro (k) ⟨by omega,_,hxm,?_⟩)|exact⟨Tryz.call136⟩|refine cpe h1 ?_|(refine Exists.intro (k+1) ⟨⟨by omega,hrun⟩,by omega,?_⟩)|exact cSd|apply qb []|refine exr ?_|refine qj ?_)
  ·have hkn:k=es.length:=by omega
   subst hkn
   rw [List.drop_length,vr] at hrun
   rw [← hrun]
   apply qd []
   repeat' (first|apply And.intro|(intro h;try exact cDd)|exact cSd|apply qb []|refine exr ?_|refine qj ?_)
theorem at_c (l:qs) (id:Int) (st:List AObj) (hl:l.ents.length<1000000):ql E 77 [jx l,Iv id] st fun r st'=>r=Iv (atF l id)∧st'=st:=by
 refine z4 [.a (jx l),.i id] (qu _) Tryz.func77 rfl rfl (fun _=>rfl) rfl fun S0=>?_
 unfold atF
 have h1:=fun st=>zaf l.ents id st hl
 by_cases h:id<1
 ·rw [if_pos h]
  apply qd []
  repeat' (first|apply And.intro|(intro h;try exact cDd)|exact cSd|apply qb []|refine exr ?_|refine qj ?_)
 ·rw [if_neg h]
  apply qd []
  repeat' (first|apply And.intro|(intro h;try exact cDd)|exact⟨Tryz.call135⟩|refine cpe h1 ?_|exact cSd|apply qb []|refine exr ?_|refine qj ?_)
theorem quk (l:qs) (id:Int) (st:List AObj) (hl:l.ents.length<1000000):ql E 32 [jx l,Iv id] st fun r st'=>r = .tu [Sv (rawF l id).1,Bv (rawF l id).2]∧st'=st:=by
 refine z4 [.a (jx l),.i id] (jq (qu _) (qu _)) Tryz.func32 rfl rfl (fun _=>rfl) rfl fun S0=>?_
 have h1:=fun st=>at_c l id st hl
 unfold rawF
 rcases qgo l id with h | ⟨i,e,h,he,hid,h1'⟩
 ·rw [h] at h1 ⊢
  have e1:(match l.ents[(-1:Int).toNat]? with|some e=>if (-1:Int)<0 then (([]:qa),false) else (e.x.raw,true)|none=>([],false))=([],false):=by split <;> rfl
  rw [e1]
  apply qd []
  repeat' (first|apply And.intro|(intro h;try exact cDd)|exact⟨Tryz.call77⟩|refine cpe h1 ?_|exact cSd|apply qb []|refine exr ?_|refine qj ?_)
 ·rw [h] at h1 ⊢
  have hm:(l.ents.map entA)[i]? = some (entA e):=by rw [List.getElem?_map,he];rfl
  have e1:(match l.ents[((i:Int)).toNat]? with|some e=>if (i:Int)<0 then (([]:qa),false) else (e.x.raw,true)|none=>([],false))=(e.x.raw,true):=by
   rw [Int.toNat_natCast,he]
   exact if_neg (by omega)
  rw [e1]
  apply qd []
  repeat' (first|apply And.intro|(intro h;try exact cDd)|(refine Exists.intro (i) ⟨by omega,_,hm,?_⟩)|exact⟨Tryz.call77⟩|refine cpe h1 ?_|exact cSd|apply qb []|refine exr ?_|refine qj ?_)
@[reducible] def lstH (a : Nat) (l : qs) : List (Nat × Option SR) := [(0, some (.cells 156 [.tp a, .i l.next, .i l.many])), (a, some (.own 4 152 (l.ents.map entA)))]
theorem q7b (es:List EntV) (id:Int) (hl:es.length<1000000):kr E 135 [.tp 0,atFn id] 1 (hpF [(0,some (.own 4 152 (es.map entA)))]) ⟨.i (vr id 0 es),vb [(0,some (.own 4 152 (es.map entA)))],[(0,some (.own 4 152 (es.map entA)))]++vl [(0,some (.own 4 152 (es.map entA)))],1⟩:=by
 refine wr [.tp 0,atFn id] [(0,some (.own 4 152 (es.map entA)))] 1 (.i (vr id 0 es)) [(0,some (.own 4 152 (es.map entA)))] 1 Tryz.func135 rfl rfl rfl rfl fun S F ρ=>?_
 have hml:(es.map entA).length=es.length:=by simp
 apply qd []
 repeat' (first|apply And.intro|(intro h;try exact cDd)|exact cSd|apply qb []|refine exr ?_|refine qj ?_)
 refine wm (X:=Nat) (fun k=>⟨[(0,.tp 0),(1,atFn id),(7,.i es.length),(8,.i k)],[(0,some (.own 4 152 (es.map entA)))],1⟩) (fun k=>k≤es.length∧vr id k (es.drop k)=vr id 0 es) (fun k=>es.length - k) 0 ⟨by omega,by simp⟩ ?_ ?_
 ·skip
  repeat' (first|apply And.intro|(intro h;try exact cDd)|exact cSd|apply qb []|refine exr ?_|refine qj ?_)
  all_goals (simp;done)
 ·rintro k ⟨hk,hrun⟩
  by_cases hkn:k<es.length
  ·have hx:es[k]? = some es[k]:=List.getElem?_eq_getElem hkn
   have hxm:(es.map entA)[k]? = some (entA es[k]):=by rw [List.getElem?_map,hx];rfl
   rw [List.drop_eq_getElem_cons hkn,vr] at hrun
   generalize es[k]=e at hx hxm hrun
   have h1:=fun st=>q81 e id st
   by_cases hid:e.id=id
   ·rw [if_pos hid] at hrun
    rw [decide_eq_true hid] at h1
    rw [← hrun]
    apply qd []
    repeat' (first|apply And.intro|(intro h;try exact cDd)|(refine qoh (i:=k) rfl rfl rfl rfl rfl rfl (by omega) ?_)|(refine qwx (i:=k) (j:=0) rfl rfl rfl rfl hxm rfl rfl ?_)|exact⟨Tryz.call136⟩|refine cpe h1 ?_|exact cSd|apply qb []|refine exr ?_|refine qj ?_)
   ·rw [if_neg hid] at hrun
    rw [decide_eq_false hid] at h1
    apply qd []
    repeat' (first|apply And.intro|(intro h;try exact cDd)|(refine qoh (i:=k) rfl rfl rfl rfl rfl rfl (by omega) ?_)|(refine qwx (i:=k) (j:=0) rfl rfl rfl rfl hxm rfl rfl ?_)|exact⟨Tryz.call136⟩|refine cpe h1 ?_|(refine Exists.intro (k+1) ⟨⟨by omega,hrun⟩,by omega,?_⟩)|exact cSd|apply qb []|refine exr ?_|refine qj ?_)
  ·have hkn:k=es.length:=by omega
   subst hkn
   rw [List.drop_length,vr] at hrun
   rw [← hrun]
   apply qd []
   repeat' (first|apply And.intro|(intro h;try exact cDd)|exact cSd|apply qb []|refine exr ?_|refine qj ?_)
theorem qrf (l:qs) (id:Int) (hl:l.ents.length<1000000):kr E 77 [.bx 0 0,.i id] 2 (hpF (lstH 1 l)) ⟨.i (atF l id),vb (lstH 1 l),lstH 1 l++vl (lstH 1 l),2⟩:=by
 refine wr [.bx 0 0,.i id] (lstH 1 l) 2 (.i (atF l id)) (lstH 1 l) 2 Tryz.func77 rfl rfl rfl rfl fun S F ρ=>?_
 unfold atF
 have h1:=q7b l.ents id hl
 by_cases h:id<1
 ·rw [if_pos h]
  apply qd []
  repeat' (first|apply And.intro|(intro h;try exact cDd)|exact cSd|apply qb []|refine exr ?_|refine qj ?_)
 ·rw [if_neg h]
  apply qd []
  repeat' (first|apply And.intro|(intro h;try exact cDd)|exact⟨Tryz.call135⟩|(refine z6 h1 ?_)|exact cSd|apply qb []|refine exr ?_|refine qj ?_)
end Go.Proofs.YtneejjefekdgjaaGreatDoor
namespace Go.Pl
open Go Go.Proofs
def qr4 (fs:List Fld):qa:=if kh fs = .no then jk fs else []
def xf (fs:List Fld):qt:=if kh fs = .no then⟨3,jk fs,fs⟩ else⟨0,[],[]⟩
def zw (its:List qt):qa:=its.flatMap fun x=>x.raw
theorem qdn (a b:List qt):zw (a++b)=zw a++zw b:=by simp [zw]
theorem qdo (x:qt):zw [x]=x.raw:=by simp [zw]
def z8 (prev:Bool):List qt→List qt
 | []=>[]
 |x::r=>(if prev=true∧x.kind≠1 then [⟨1,[10],[]⟩,x] else [x])++z8 (decide (x.kind≠1)) r
def wg (its:List qt):List qt:=z8 false its
def zk (l:qs):List qt:=l.ents.map fun e=>e.x
def jj (l:qs):qa:=zw (wg (zk l))
end Go.Pl
namespace Go.Proofs.YtneejjefekdgjaaGreatDoor
open Go Go.Av Go.RowKit Go.Proofs Go.Pl
theorem q4w (fs:List Fld) (st:List AObj) (hK:KeyB fs) (hl:fs.length<9223372036854775808):ql E 286 [vm fs] st fun r st'=>r = .tu [Sv (qr4 fs),errA (kh fs)]∧st'=st:=by
 refine z4 [.a (vm fs)] (jq (qu _) (j6 _)) Tryz.func286 rfl rfl (fun _=>rfl) rfl fun S0=>?_
 unfold qr4
 cases he:kh fs with
 |no=>
  rw [if_pos rfl]
  have h1:=fun st=>qjv fs st _ he hK hl
  obtain⟨_,h3,h4⟩:=qfz he
  have h2:=fun st=>qpy fs st h3 h4
  apply qd []
  repeat' (first|apply And.intro|(intro h;try exact cDd)|exact⟨Tryz.call228⟩|refine cpe h1 ?_|exact⟨Tryz.call167⟩|refine cpe h2 ?_|exact cSd|apply qb []|refine exr ?_|refine qj ?_)
 |num n=>
  rw [if_neg (by simp)]
  have h1:=fun st=>qjv fs st _ he hK hl
  apply qd []
  repeat' (first|apply And.intro|(intro h;try exact cDd)|exact⟨Tryz.call228⟩|refine cpe h1 ?_|exact cSd|apply qb []|refine exr ?_|refine qj ?_)
 |at' a n=>
  rw [if_neg (by simp)]
  have h1:=fun st=>qjv fs st _ he hK hl
  apply qd []
  repeat' (first|apply And.intro|(intro h;try exact cDd)|exact⟨Tryz.call228⟩|refine cpe h1 ?_|exact cSd|apply qb []|refine exr ?_|refine qj ?_)
theorem qzp (fs:List Fld) (st:List AObj) (hK:KeyB fs) (hl:fs.length<1000000):ql E 229 [vm fs] st fun r st'=>r = .tu [vh (xf fs),errA (kh fs)]∧st'=st:=by
 refine z4 [.a (vm fs)] (jq (qcz (qie _)) (j6 _)) Tryz.func229 rfl rfl (fun _=>rfl) rfl fun S0=>?_
 have h1:=fun st=>q4w fs st hK (by omega)
 have h2:=fun st=>qf0 fs st hl
 unfold qr4 at h1
 unfold xf
 cases he:kh fs with
 |no=>
  rw [he,if_pos rfl] at h1
  rw [if_pos rfl]
  apply qd []
  repeat' (first|apply And.intro|(intro h;try exact cDd)|exact⟨Tryz.call286⟩|refine cpe h1 ?_|exact⟨Tryz.call71⟩|refine cpe h2 ?_|exact cSd|apply qb []|refine exr ?_|refine qj ?_)
 |num n=>
  rw [he,if_neg (by simp)] at h1
  rw [if_neg (by simp)]
  apply qd []
  repeat' (first|apply And.intro|(intro h;try exact cDd)|exact⟨Tryz.call286⟩|refine cpe h1 ?_|exact cSd|apply qb []|refine exr ?_|refine qj ?_)
 |at' a n=>
  rw [he,if_neg (by simp)] at h1
  rw [if_neg (by simp)]
  apply qd []
  repeat' (first|apply And.intro|(intro h;try exact cDd)|exact⟨Tryz.call286⟩|refine cpe h1 ?_|exact cSd|apply qb []|refine exr ?_|refine qj ?_)
theorem q6q (x:qt) (st:List AObj) (hl:x.fields.length<1000000):ql E 227 [vh x] st fun r st'=>r=vh x∧st'=st:=by
 refine z4 [.a (vh x)] (qcz (qie _)) Tryz.func227 rfl rfl (fun _=>rfl) rfl fun S0=>?_
 have h2:=fun st=>qf0 x.fields st hl
 apply qd [1]
 repeat' (first|apply And.intro|(intro h;try exact cDd)|exact⟨Tryz.call71⟩|refine cpe h2 ?_|exact cSd|apply qb [1]|refine exr ?_|refine qj ?_)
structure ItsB (its:List qt):Prop where
 len:its.length≤1000000
 fld:∀ x∈its,x.fields.length<1000000
theorem qsf (prev:Bool):∀ its:List qt,(z8 prev its).length≤2 * its.length
 | []=>by simp [z8]
 |x::r=>by
  have ih:=qsf (decide (x.kind≠1)) r
  unfold z8
  split <;> simp only [List.length_append,List.length_cons,List.length_nil] <;> omega
theorem q7t (its:List qt) (st:List AObj) (hB:ItsB its):ql E 151 [wh its] st fun r st'=>r=wh (wg its)∧st'=st:=by
 refine z4 [.a (wh its)] (qex _) Tryz.func151 rfl rfl (fun _=>rfl) rfl fun S0=>?_
 have hln:=hB.len
 apply qd []
 repeat' (first|apply And.intro|(intro h;try exact cDd)|exact cSd|apply qb []|refine exr ?_|refine qj ?_)
 refine wm (X:=Nat×List qt) (fun (k,out)=>⟨[(0,.a (wh its)),(3,.tp 0),(6,.a (wh its)),(7,.i its.length),(8,.i k)],[(0,some (.tip 3 52 (out.map vh)))],1⟩)
  (fun (k,out)=>k≤its.length∧out.length≤2 * k∧∃ prev,(prev=true↔∃ y,0<k∧its[k - 1]? = some y∧y.kind≠1)∧out++z8 prev (its.drop k)=wg its) (fun (k,out)=>its.length - k) (0,[]) ⟨by omega,by simp,false,by simp,rfl⟩ ?_ ?_
 ·skip
  repeat' (first|apply And.intro|(intro h;try exact cDd)|exact cSd|apply qb []|refine exr ?_|refine qj ?_)
  all_goals (simp;done)
 ·rintro⟨k,out⟩ ⟨hk,hol,prev,hpv,hrun⟩
  by_cases hkn:k<its.length
  ·have hx:its[k]? = some its[k]:=List.getElem?_eq_getElem hkn
   have hxm:(its.map vh)[k]? = some (vh its[k]):=by rw [List.getElem?_map,hx];rfl
   have hxf:=hB.fld its[k] (List.getElem_mem hkn)
   rw [List.drop_eq_getElem_cons hkn,z8] at hrun
   generalize its[k]=x at hx hxm hrun hxf
   have hcp:=fun st=>q6q x st hxf
   have hml:(out.map vh).length=out.length:=by simp
   have hnext:(decide (x.kind≠1)=true↔∃ y,0<k+1∧its[k+1 - 1]? = some y∧y.kind≠1):=by
    rw [decide_eq_true_iff,Nat.add_sub_cancel,hx]
    constructor
    ·intro h
     exact⟨x,by omega,rfl,h⟩
    ·rintro⟨y,_,h1,h2⟩
     simp only [Option.some.injEq] at h1
     rw [h1]
     exact h2
   by_cases hk0:k=0
   ·have hp:¬ (prev=true):=fun h=>by
     obtain⟨_,h,_⟩:=hpv.1 h
     omega
    rw [if_neg (fun h=>hp h.1)] at hrun
    apply qd []
    repeat' (first|apply And.intro|(intro h;try exact cDd)|(refine Exists.intro (k) ⟨by omega,_,hxm,?_⟩)|exact⟨Tryz.call227⟩|refine cpe hcp ?_|(refine Exists.intro (k+1,out++[x]) ⟨⟨by omega,by simp;omega,_,hnext,by rw [← hrun];simp⟩,by simp only;omega,?_⟩)|exact cSd|apply qb []|refine exr ?_|refine qj ?_)
    all_goals first|(simp [SV.evs,SV.ev];done)|(simp [SV.evs];omega)
   ·obtain⟨y,hy⟩:∃ y,its[k - 1]? = some y:=⟨_,List.getElem?_eq_getElem (by omega:k - 1<its.length)⟩
    have hym:(its.map vh)[k - 1]? = some (vh y):=by rw [List.getElem?_map,hy];rfl
    have hpy:(prev=true↔y.kind≠1):=by
     rw [hpv]
     constructor
     ·rintro⟨z,_,h1,h2⟩
      rw [hy] at h1
      simp only [Option.some.injEq] at h1
      rw [h1]
      exact h2
     ·exact fun h=>⟨y,by omega,hy,h⟩
    by_cases hb:x.kind≠1∧y.kind≠1
    ·rw [if_pos ⟨hpy.2 hb.2,hb.1⟩] at hrun
     obtain⟨hb1,hb2⟩:=hb
     apply qd []
     repeat' (first|apply And.intro|(intro h;try exact cDd)|(refine Exists.intro (k) ⟨by omega,_,hxm,?_⟩)|(refine Exists.intro (k - 1) ⟨by omega,_,hym,?_⟩)|exact⟨Tryz.call227⟩|refine cpe hcp ?_|(refine Exists.intro (k+1,out++[⟨1,[10],[]⟩,x]) ⟨⟨by omega,by simp;omega,_,hnext,by rw [← hrun];simp⟩,by simp only;omega,?_⟩)|exact cSd|apply qb []|refine exr ?_|refine qj ?_)
     all_goals first|(simp [SV.evs,SV.ev];done)|(simp [SV.evs];omega)
    ·rw [if_neg (fun h=>hb ⟨h.2,hpy.1 h.1⟩)] at hrun
     apply qd []
     repeat' (first|apply And.intro|(intro h;try exact cDd)|(refine Exists.intro (k) ⟨by omega,_,hxm,?_⟩)|(refine Exists.intro (k - 1) ⟨by omega,_,hym,?_⟩)|exact⟨Tryz.call227⟩|refine cpe hcp ?_|(refine Exists.intro (k+1,out++[x]) ⟨⟨by omega,by simp;omega,_,hnext,by rw [← hrun];simp⟩,by simp only;omega,?_⟩)|exact absurd ⟨by assumption,by assumption⟩ hb|exact cSd|apply qb []|refine exr ?_|refine qj ?_)
     all_goals first|(simp [SV.evs,SV.ev];done)|(simp [SV.evs];omega)
  ·have hkn:k=its.length:=by omega
   subst hkn
   rw [List.drop_length,z8,List.append_nil] at hrun
   rw [← hrun]
   apply qd []
   repeat' (first|apply And.intro|(intro h;try exact cDd)|exact cSd|apply qb []|refine exr ?_|refine qj ?_)
theorem zbj (its:List qt) (st:List AObj) (hl:its.length≤4000000) (hr:(zw its).length≤1000000000000):ql E 150 [wh its] st fun r st'=>r=Sv (zw its)∧st'=st:=by
 refine q6 (qu _) (qp Tryz.func150 rfl (Nat.le_of_ble_eq_true rfl) ?_)
 have hml:(its.map vh).length=its.length:=by simp
 repeat' (first|(apply qet;exact rfl)|apply qm|apply q8|apply qg|apply qf|apply qk|apply qh|(apply jp;(iterate 4 exact rfl)))
 refine qde its (fun pre s=>∃ q,(q = .v (.pointer none)∨q = .bx (st.length+0) 0 0)∧StE [(3,.bx (st.length+0) 0 0),(6,wh its),(7,Iv its.length),(8,Iv pre.length)] st [bldO 0 q (zw pre) (st.length+1),.tip (zw pre).length 1 5] s) ⟨_,.inl rfl,qi1 ⟨rfl,rfl,congrArg (fun n:Nat=>Iv (n:Int)) hml,rfl,trivial⟩ rfl⟩ ?_ ?_
 ·rintro _ ⟨q,hq,t,ext,rfl⟩
  repeat' (first|apply qm|apply qg|apply qf|apply qh|(apply q5;(iterate 3 exact rfl))|(apply qc;exact rfl;apply xl;exact cAo)|apply vj|apply qx|(refine qi Tryz.call171 (qeu st _ _ _ _ 0 1 0 _ _ rfl rfl rfl) ?_))
  exact qo rfl (zi rfl) ⟨rfl,qdg _ _ _ _⟩
 ·rintro pre x rest _ hre ⟨q,hq,t,ext,rfl⟩
  have hlen:its.length=pre.length+(rest.length+1):=by rw [hre];simp
  have hget:(its.map vh)[pre.length]? = some (vh x):=by rw [hre];simp
  have hrl:(zw pre).length+x.raw.length≤1000000000000:=by
   have e:x::rest=[x]++rest:=rfl
   rw [hre,qdn,e,qdn,qdo] at hr
   simp only [List.length_append] at hr
   omega
  repeat' (first|apply qm|apply q8|apply qg|apply qf|(apply q5;(iterate 3 exact rfl))|(apply qc;exact rfl;apply xm;exact cAo)|(apply jm;exact rfl;exact rfl)|(apply zf;(iterate 3 exact rfl))|(apply jv;(iterate 3 exact rfl))|(apply jr;(iterate 5 exact rfl))|(apply zv;(iterate 11 exact rfl))|apply qz|(apply kg (n:=pre.length);(iterate 5 exact rfl);exact hget))
  refine qi Tryz.call168 (qfw st _ _ _ _ 0 1 0 _ _ _ rfl rfl ?_ ?_ rfl) ?_;(exact hq);(omega)
  repeat' (first|apply qg|apply qf|apply qk|(apply z7;exact rfl;exact rfl;exact zj (by omega) (by omega)))
  refine⟨_,.inr rfl,qfg ⟨rfl,rfl,rfl,?_,trivial⟩ ?_⟩
  ·rw [qeo pre x];rfl
  ·rw [qdn,qdo];rfl
theorem q78 (its:List qt) (st:List AObj) (hB:ItsB its) (hr:(zw (wg its)).length≤1000000000000):ql E 88 [wh its] st fun r st'=>r=Sv (zw (wg its))∧st'=st:=by
 refine z4 [.a (wh its)] (qu _) Tryz.func88 rfl rfl (fun _=>rfl) rfl fun S0=>?_
 have h1:=fun st=>q7t its st hB
 have hal:=qsf false its
 have hln:=hB.len
 have h2:=fun st=>zbj (wg its) st (by unfold wg;omega) hr
 apply qd []
 repeat' (first|apply And.intro|(intro h;try exact cDd)|exact⟨Tryz.call151⟩|refine cpe h1 ?_|exact⟨Tryz.call150⟩|refine cpe h2 ?_|exact cSd|apply qb []|refine exr ?_|refine qj ?_)
theorem q7j (l:qs) (st:List AObj) (hB:ItsB (zk l)):ql E 89 [jx l] st fun r st'=>r=wh (zk l)∧st'=st:=by
 refine z4 [.a (jx l)] (qex _) Tryz.func89 rfl rfl (fun _=>rfl) rfl fun S0=>?_
 have hln:=hB.len
 have hil:(zk l).length=l.ents.length:=by simp [zk]
 apply qd []
 repeat' (first|apply And.intro|(intro h;try exact cDd)|exact cSd|apply qb []|refine exr ?_|refine qj ?_)
 refine wm (X:=Nat) (fun k=>⟨[(3,.tp 0),(12,.a (.sl 4 (l.ents.map entA) none)),(13,.i l.ents.length),(14,.i k)],[(0,some (.tip 3 52 (((zk l).take k).map vh)))],1⟩)
  (fun k=>k≤l.ents.length) (fun k=>l.ents.length - k) 0 (by omega) ?_ ?_
 ·skip
  repeat' (first|apply And.intro|(intro h;try exact cDd)|exact cSd|apply qb []|refine exr ?_|refine qj ?_)
  all_goals (simp;done)
 ·rintro k hk
  by_cases hkn:k<l.ents.length
  ·have hx:l.ents[k]? = some l.ents[k]:=List.getElem?_eq_getElem hkn
   have hxm:(l.ents.map entA)[k]? = some (entA l.ents[k]):=by rw [List.getElem?_map,hx];rfl
   have hxi:(zk l)[k]? = some l.ents[k].x:=by unfold zk;rw [List.getElem?_map,hx];rfl
   have hxf:=hB.fld l.ents[k].x (List.mem_of_getElem? hxi)
   have htk:(zk l).take (k+1)=(zk l).take k++[l.ents[k].x]:=by rw [List.take_add_one,hxi];rfl
   have htl:(((zk l).take k).map vh).length≤k:=by simp;omega
   generalize l.ents[k]=e at hx hxm hxi hxf htk
   have hcp:=fun st=>qf0 e.x.fields st hxf
   apply qd []
   repeat' (first|apply And.intro|(intro h;try exact cDd)|(refine Exists.intro (k) ⟨by omega,_,hxm,?_⟩)|exact⟨Tryz.call71⟩|refine cpe hcp ?_|(refine Exists.intro (k+1) ⟨by omega,by omega,?_⟩)|exact cSd|apply qb []|refine exr ?_|refine qj ?_)
   all_goals first|(rw [htk];simp;done)|(simp [SV.evs];omega)
  ·have hkn:k=l.ents.length:=by omega
   subst hkn
   have e:(zk l).take l.ents.length=zk l:=List.take_of_length_le (by omega)
   rw [e]
   apply qd []
   repeat' (first|apply And.intro|(intro h;try exact cDd)|exact cSd|apply qb []|refine exr ?_|refine qj ?_)
theorem zau (l:qs) (st:List AObj) (hB:ItsB (zk l)) (hr:(jj l).length≤1000000000000):ql E 43 [jx l] st fun r st'=>r=Sv (jj l)∧st'=st:=by
 refine z4 [.a (jx l)] (qu _) Tryz.func43 rfl rfl (fun _=>rfl) rfl fun S0=>?_
 have h1:=fun st=>q7j l st hB
 have h2:=fun st=>q78 (zk l) st hB hr
 apply qd []
 repeat' (first|apply And.intro|(intro h;try exact cDd)|exact⟨Tryz.call89⟩|refine cpe h1 ?_|exact⟨Tryz.call88⟩|refine cpe h2 ?_|exact cSd|apply qb []|refine exr ?_|refine qj ?_)
theorem qgr (es:List EntV):∀ x∈es.map entA,x.cells.length=4:=fun x hx=>by
 obtain⟨e,_,rfl⟩:=List.mem_map.1 hx
 rfl
theorem qbu (es:List EntV):(flat (es.map entA)).length=es.length * 4:=by
 rw [zx (qgr es),List.length_map]
theorem qe8 (a b:List EntV):flat ((a++b).map entA)=flat (a.map entA)++flat (b.map entA):=by rw [List.map_append,wu]
theorem qcm (A B xs:List AV) {off:Nat} (h:A.length=off):zp (A++B) off xs=A++xs++B.drop xs.length:=by
 unfold zp
 rw [← h,List.take_left,List.drop_append,List.drop_eq_nil_of_le (by omega)]
 simp
theorem qgd {cs xs:List AV} {off:Nat} (h:off+xs.length≤cs.length):(zp cs off xs).length=cs.length:=by
 unfold zp
 simp
 omega
theorem zda (es:List EntV) (i:Nat) (hi:i<es.length) (hl:es.length<1000000) (st:List AObj) (c:AV) (hc:OwnS st 4 152 (es.map entA) c):ql E 230 [c,Iv i,Iv ((i:Int)+1)] st fun r st'=>OwnR 4 152 ((es.take i++es.drop (i+1)).map entA) st c r st':=by
 have hml:(es.map entA).length=es.length:=by simp
 rcases hc with⟨h0,_⟩ | ⟨o,ver,cap,pad,rfl,e2,e3,e4,e5,e6⟩
 ·rw [h0] at hml
  simp at hml
  omega
 rw [hml] at e5 ⊢
 have hlt:=lt_of_getElem? e2
 have hfl:=qbu es
 have hsplit:flat (es.map entA)++pad=flat ((es.take i).map entA)++(flat ((es.drop i).map entA)++pad):=by
  rw [← List.append_assoc,← qe8,List.take_append_drop]
 have ht4:(flat ((es.take i).map entA)).length=i * 4:=by rw [qbu,List.length_take,Nat.min_eq_left (by omega)]
 have hd4:(flat ((es.drop (i+1)).map entA)).length=(es.length - (i+1)) * 4:=by rw [qbu,List.length_drop]
 obtain⟨B1,hB1⟩:∃ B1,(flat ((es.drop i).map entA)++pad).drop (flat ((es.drop (i+1)).map entA)).length=B1:=⟨_,rfl⟩
 have hsp:zp (flat (es.map entA)++pad) (i * 4) (flat ((es.drop (i+1)).map entA))=flat ((es.take i++es.drop (i+1)).map entA)++B1:=by
  rw [hsplit,qcm _ _ _ ht4,qe8,hB1]
 have hsl:(flat ((es.take i++es.drop (i+1)).map entA)++B1).length=(cap+1) * 4:=by
  rw [← hsp,qgd (by rw [e3,hd4];omega),e3]
 have hel:(es.take i++es.drop (i+1)).length=es.length - 1:=by simp;omega
 -- what is appended
 obtain⟨q,hq⟩:∃ q,(if cap+1=i+1 then 0 else 0+(i+1) * 4)=q:=⟨_,rfl⟩
 have hqz:((flat (es.map entA)++pad).drop q).take ((es.length - (i+1)) * 4)=flat ((es.drop (i+1)).map entA)∧q+(es.length - (i+1)) * 4≤(flat (es.map entA)++pad).length:=by
  rw [e3]
  by_cases hci:cap+1=i+1
  ·have:es.length - (i+1)=0:=by omega
   rw [if_pos hci] at hq
   rw [this,← hq,List.drop_eq_nil_of_le (by omega:es.length≤i+1)]
   exact⟨by simp [flat],by omega⟩
  ·rw [if_neg hci] at hq
   rw [← hq]
   refine⟨?_,by omega⟩
   have e:flat (es.map entA)++pad=flat ((es.take (i+1)).map entA)++(flat ((es.drop (i+1)).map entA)++pad):=by
    rw [← List.append_assoc,← qe8,List.take_append_drop]
   have e':(flat ((es.take (i+1)).map entA)).length=0+(i+1) * 4:=by rw [qbu,List.length_take,Nat.min_eq_left (by omega)];omega
   rw [e,← e',List.drop_left,← hd4,List.take_left]
 have hsrc:SrcA st 4 (.os o ver q (es.length - (i+1)) (cap+1 - (i+1))) (es.length - (i+1)) (es.length - (i+1)) (flat ((es.drop (i+1)).map entA)):=by
  have:=SrcA.os (st:=st) (sz:=4) o ver q (es.length - (i+1)) (cap+1 - (i+1)) (es.length - (i+1)) _ _ e2 hqz.2 (by rw [hqz.1];exact qav fun _=>rfl)
  rw [hqz.1] at this
  exact this
 refine qp Tryz.func230 rfl (Nat.le_of_ble_eq_true rfl) ?_
 rw [List.append_nil]
 repeat' (first|(refine zo (sz:=4) (i:=i) (j:=i+1) (m:=es.length) rfl rfl rfl ?_ ?_ ?_ ?_ ?_ ?_ ?_;exact⟨_,rfl⟩;exact⟨_,rfl⟩;exact⟨_,rfl⟩;omega;omega;omega)|apply qm|apply qg|apply qf|apply qk|apply qh|(apply q5;(iterate 3 exact rfl))|(apply qc;exact rfl;apply xl;exact cAo)|(apply jp;(iterate 4 exact rfl))|apply qz)
 refine qrg (fun s=>StA [(0,.os o ver 0 (i+(es.length - (i+1))) (cap+1)),(7,Iv es.length)] (st.set o (.cells ver 152 (flat ((es.take i++es.drop (i+1)).map entA)++B1))) [] s) ?_ ?_
 ·refine qhj rfl rfl ?_
  (apply xh 0;exact rfl;kernel_rfl;kernel_rfl;kernel_rfl;exact rfl;exact ya)
  (apply xh 1;exact rfl;kernel_rfl;kernel_rfl;kernel_rfl;exact rfl;exact ya)
  (apply xh 3;exact rfl;kernel_rfl;kernel_rfl;kernel_rfl;exact rfl;exact ya)
  (apply xh 4;exact rfl;kernel_rfl;kernel_rfl;kernel_rfl;exact rfl;exact ya)
  refine v7 [2,5] (by kernel_rfl) rfl ⟨⟨_,rfl,?_⟩,⟨_,rfl,?_⟩,trivial⟩
  ·(refine zo (sz:=4) (i:=0) (j:=i) (m:=cap+1) rfl rfl rfl ?_ ?_ ?_ ?_ ?_ ?_ ?_;exact rfl;exact⟨_,rfl⟩;exact rfl;omega;omega;omega)
   apply qf
   refine v7 [5] (by kernel_rfl) rfl ⟨⟨_,rfl,?_⟩,trivial⟩
   (refine zo (sz:=4) (i:=i+1) (j:=es.length) (m:=cap+1) rfl rfl rfl ?_ ?_ ?_ ?_ ?_ ?_ ?_;exact⟨_,rfl⟩;exact⟨rfl,rfl⟩;exact rfl;omega;omega;omega;rw [hq])
   apply qf
   refine v7 [6] (by kernel_rfl) rfl ⟨⟨_,rfl,?_⟩,trivial⟩
   (refine qkd (bytes:=56) (o:=o) (ver:=ver) (n:=i) (cap:=cap+1) (m:=es.length - (i+1)) (cs:=flat (es.map entA)++pad) rfl rfl e2 hsrc rfl rfl ⟨⟨_,_,rfl,rfl,rfl,rfl,rfl⟩⟩ (by omega) e3 ?_;rw [hsp])
   apply qf
   (apply xh 7;exact rfl;kernel_rfl;kernel_rfl;kernel_rfl;exact rfl;exact qsl)
   refine qbc (by kernel_rfl) ?_
   exact wa ⟨rfl,rfl,trivial⟩
  ·(refine zo (sz:=4) (i:=i+1) (j:=es.length) (m:=cap+1) rfl rfl rfl ?_ ?_ ?_ ?_ ?_ ?_ ?_;exact⟨_,rfl⟩;exact⟨rfl,rfl⟩;exact rfl;omega;omega;omega;rw [hq])
   apply qf
   refine v7 [2] (by kernel_rfl) rfl ⟨⟨_,rfl,?_⟩,trivial⟩
   (refine zo (sz:=4) (i:=0) (j:=i) (m:=cap+1) rfl rfl rfl ?_ ?_ ?_ ?_ ?_ ?_ ?_;exact rfl;exact⟨_,rfl⟩;exact rfl;omega;omega;omega)
   apply qf
   refine v7 [6] (by kernel_rfl) rfl ⟨⟨_,rfl,?_⟩,trivial⟩
   (refine qkd (bytes:=56) (o:=o) (ver:=ver) (n:=i) (cap:=cap+1) (m:=es.length - (i+1)) (cs:=flat (es.map entA)++pad) rfl rfl e2 hsrc rfl rfl ⟨⟨_,_,rfl,rfl,rfl,rfl,rfl⟩⟩ (by omega) e3 ?_;rw [hsp])
   apply qf
   (apply xh 7;exact rfl;kernel_rfl;kernel_rfl;kernel_rfl;exact rfl;exact qsl)
   refine qbc (by kernel_rfl) ?_
   exact wa ⟨rfl,rfl,trivial⟩
 ·rintro _ ⟨t,rfl⟩
  have hob:(st.set o (AObj.cells ver 152 (flat ((es.take i++es.drop (i+1)).map entA)++B1)))[o]? = some (.cells ver 152 (flat ((es.take i++es.drop (i+1)).map entA)++B1)):=js e2
  have hqq:(if cap+1=i+(es.length - (i+1)) then 0 else 0+(i+(es.length - (i+1))) * 4)=(es.length - 1) * 4:=by
   rw [if_neg (by omega)]
   omega
  have hfe:(flat ((es.take i++es.drop (i+1)).map entA)).length=(es.length - 1) * 4:=by rw [qbu,hel]
  repeat' (first|(refine zo (sz:=4) (i:=i+(es.length - (i+1))) (j:=es.length) (m:=cap+1) rfl rfl rfl ?_ ?_ ?_ ?_ ?_ ?_ ?_;exact⟨_,rfl⟩;exact⟨_,rfl⟩;exact rfl;omega;omega;omega;rw [hqq])|(refine qux (sz:=4) (bytes:=56) rfl hob rfl ⟨⟨_,_,rfl,rfl,rfl,rfl,rfl⟩⟩ rfl (by rw [hsl];omega) fun zs hz=>?_)|apply qm|apply qg|apply qf|apply qk|apply qh|(apply jp;(iterate 4 exact rfl))|apply qx)
  refine qo rfl (zi rfl) ?_
  show OwnR 4 152 _ st _ (.os o ver 0 (i+(es.length - (i+1))) (cap+1)) ((st.set o _).set o (.cells ver 152 (zp (flat ((es.take i++es.drop (i+1)).map entA)++B1) ((es.length - 1) * 4) zs)))
  rw [List.set_set,qcm _ _ _ hfe,List.append_assoc]
  have hB1l:(es.length - 1) * 4+B1.length=(cap+1) * 4:=by rw [← hfe,← List.length_append];exact hsl
  have hzl:zs.length=4:=by rw [hz];omega
  refine⟨.inr ⟨o,ver,cap,zs++B1.drop zs.length,?_,js e2,?_,qgr _,?_,e6⟩,by simp,fun j hj hne=>List.getElem?_set_ne fun e=>hne (by rw [e];rfl),fun o' ho'=>.inr ho'⟩
  ·rw [List.length_map,hel]
   congr 1
   omega
  ·rw [List.length_append,List.length_append,List.length_drop,hfe,hzl]
   omega
  ·rw [List.length_map,hel]
   omega
theorem zbf (e:EntV) (st:List AObj) (c:AV) (hnr:qa8 c):ql E 231 [c,Iv 0,.sl 4 [entA e] none] st fun r st'=>OwnR 4 152 [entA e] st c r st':=by
 refine qp Tryz.func231 rfl (Nat.le_of_ble_eq_true rfl) ?_
 rw [List.append_nil]
 repeat' (first|(apply jp (n:=1);(iterate 4 exact rfl))|(refine quz (sz:=4) rfl hnr.val rfl rfl ?_ ?_;exact⟨_,rfl⟩)|(apply jp;exact rfl;exact hnr.len;exact rfl;exact rfl)|(refine qc2 (sz:=4) (ys:=[entA e]) (bytes:=56) hnr.val (fun _ _ h=>h) rfl rfl ⟨⟨_,_,rfl,rfl,rfl,rfl,rfl⟩⟩ rfl (by simp) (by simp [maxLen]) (by simp) fun cap pad q1 q2 q3 q4=>?_)|apply qm|apply qg|apply qf|apply qk|apply qh|(apply q5;(iterate 3 exact rfl))|(apply qc;exact rfl;apply xm;exact cAo)|(apply qc;exact rfl;apply xl;exact cAo)|apply qz|apply qx)
 refine qo rfl (zi rfl) ?_
 show OwnR 4 152 _ st c (.os st.length 0 0 _ (cap+1)) (st++[_])
 refine⟨.inr ⟨_,0,cap,pad,rfl,wt,q1,q2,q3,q4⟩,qej,fun j hj _=>List.getElem?_append_left hj,fun o ho=>?_⟩
 simp only [zh,Option.some.injEq] at ho
 left
 omega
theorem zbg (es:List EntV) (e:EntV) (hl:es.length<1000000) (st:List AObj) (o ver cap:Nat) (pad:List AV) (e2:st[o]? = some (.cells ver 152 (flat (es.map entA)++pad))) (e3:(flat (es.map entA)++pad).length=(cap+1) * 4) (e5:es.length≤cap+1) (e6:cap+1≤maxLen) :
  ql E 231 [.os o ver 0 es.length (cap+1),Iv es.length,.sl 4 [entA e] none] st fun r st'=>OwnR 4 152 (es.map entA++[entA e]) st (.os o ver 0 es.length (cap+1)) r st':=by
 have hml:(es.map entA).length=es.length:=by simp
 have hlt:=lt_of_getElem? e2
 have hV0:Vec 4 152 o (es.map entA) (.os o ver 0 es.length (cap+1)) (.cells ver 152 (flat (es.map entA)++pad)):=by
  have:=Vec.os (o:=o) (T:=152) (xs:=es.map entA) ver (cap+1) pad e3 (qgr _) (by omega) e6
  rw [hml] at this
  exact this
 refine qp Tryz.func231 rfl (Nat.le_of_ble_eq_true rfl) ?_
 rw [List.append_nil]
 repeat' (first|(apply jp (n:=1);(iterate 4 exact rfl))|(refine zo (sz:=4) (i:=es.length) (j:=es.length) (m:=cap+1) rfl rfl rfl ?_ ?_ ?_ ?_ ?_ ?_ ?_;exact⟨_,rfl⟩;exact⟨rfl,rfl⟩;exact rfl;omega;omega;omega)|(refine qke (sz:=4) (bytes:=56) (o:=o) (xs:=es.map entA) (ys:=[entA e]) rfl (fun _ _ h=>h) hV0 e2 rfl rfl ⟨⟨_,_,rfl,rfl,rfl,rfl,rfl⟩⟩ rfl (by simp [maxLen];omega) (by simp;omega) fun a' ob' hV=>?_)|apply qm|apply qg|apply qf|apply qk|apply qh|(apply q5;(iterate 3 exact rfl))|(apply qc;exact rfl;apply xm;exact cAo)|(apply qc;exact rfl;apply xl;exact cAo)|(apply jp;(iterate 4 exact rfl))|apply qz|apply qx)
 rcases q5w hV with⟨q,_,_⟩ | ⟨ver',cap',pad',rfl,rfl,q1,q2,q3,q4⟩
 ·simp at q
 ·obtain⟨cap',rfl⟩:∃ c,cap'=c+1:=⟨cap' - 1,by simp at q3;omega⟩
  refine qo rfl (zi rfl) ?_
  show OwnR 4 152 _ st _ (.os o ver' 0 _ (cap'+1)) (st.set o _)
  exact⟨.inr ⟨o,ver',cap',pad',rfl,js e2,q1,q2,q3,q4⟩,by simp,fun j hj hne=>List.getElem?_set_ne fun e=>hne (by rw [e];rfl),fun o' ho'=>.inr ho'⟩
theorem qwv (w:World) (a b:Addr) (la ca lb cb:Nat) (tA tB:TypeId) (kA kB:Nat) (h1:a.block≠b.block) (h2:w.shape? a.block=some (tA,kA)) (h3:w.shape? b.block=some (tB,kB)) (h4:kA≠0) (h5:w.frozen? b=false) (h6:w.frozen? { block:=b.block,off:=kB }=false) :
  (callFunc 287 #[.slice (some a) la ca,.slice (some b) lb cb]).run E.P w = .ok (.value (.bool false)) w:=by
 have hz:∀ w,(Go.sizeOf 152).run E.P w = .ok 4 w:=fun w=>(ko (agg:=true) rfl w).1
 rw [run_callFunc_extern (P:=E.P) Tryz.func287 (by kernel_rfl) (by kernel_rfl) (by kernel_rfl) (e:=Extern.SlicesOverlaps.overlaps #[154,154] #[4]) (by kernel_rfl),
  qon w 154 4 152 rfl 4 hz a b la ca lb cb h1 tA tB kA kB h2 h3 h4 h5 h6]
 rfl
structure InsB (es:List EntV) (e:EntV) (i cap:Nat) (pad:List AV):Prop where
 t4:(flat ((es.take i).map entA)).length=i * 4
 d4:(flat ((es.drop i).map entA)).length=(es.length - i) * 4
 split:flat (es.map entA)++pad=flat ((es.take i).map entA)++(flat ((es.drop i).map entA)++pad)
 take:(flat (es.map entA)++pad).take (i * 4)=flat ((es.take i).map entA)
 drop:((flat (es.map entA)++pad).drop (0+i * 4)).take ((es.length - i) * 4)=flat ((es.drop i).map entA)
 new:flat ((es.take i++e::es.drop i).map entA)=flat ((es.take i).map entA)++flat [entA e]++flat ((es.drop i).map entA)
 nl:(es.take i++e::es.drop i).length=es.length+1
 src:∀ o ver L c' (S:List AObj),(flat (es.map entA)++pad).length=(cap+1) * 4→es.length≤cap+1→S[o]? = some (.cells ver 152 (flat (es.map entA)++pad))→SrcA S 4 (.os o ver (0+i * 4) L c') L (es.length - i) (flat ((es.drop i).map entA))
theorem insB (es:List EntV) (e:EntV) (i cap:Nat) (pad:List AV) (hi:i<es.length):InsB es e i cap pad:=by
 have ht4:(flat ((es.take i).map entA)).length=i * 4:=by rw [qbu,List.length_take,Nat.min_eq_left (by omega)]
 have hd4:(flat ((es.drop i).map entA)).length=(es.length - i) * 4:=by rw [qbu,List.length_drop]
 have hsplit:flat (es.map entA)++pad=flat ((es.take i).map entA)++(flat ((es.drop i).map entA)++pad):=by
  rw [← List.append_assoc,← qe8,List.take_append_drop]
 have hdrop:((flat (es.map entA)++pad).drop (0+i * 4)).take ((es.length - i) * 4)=flat ((es.drop i).map entA):=by rw [Nat.zero_add,hsplit,← ht4,List.drop_left,← hd4,List.take_left]
 refine⟨ht4,hd4,hsplit,by rw [hsplit,← ht4,List.take_left],hdrop,?_,by simp;omega,fun o ver L c' S e3 e5 hS=>?_⟩
 ·rw [qe8]
  simp [flat]
 ·have:=SrcA.os (st:=S) (sz:=4) o ver (0+i * 4) L c' (es.length - i) _ _ hS (by rw [e3];omega) (by rw [hdrop];exact qav fun _=>rfl)
  rw [hdrop] at this
  exact this
set_option maxHeartbeats 4000000 in
theorem zbi (es:List EntV) (e:EntV) (i:Nat) (hi:i<es.length) (hl:es.length<1000000) (st:List AObj) (o ver cap:Nat) (pad:List AV) (e2:st[o]? = some (.cells ver 152 (flat (es.map entA)++pad))) (e3:(flat (es.map entA)++pad).length=(cap+1) * 4) (e5:es.length+1≤cap+1) (e6:cap+1≤maxLen) :
  ql E 231 [.os o ver 0 es.length (cap+1),Iv i,.sl 4 [entA e] none] st fun r st'=>OwnR 4 152 ((es.take i++e::es.drop i).map entA) st (.os o ver 0 es.length (cap+1)) r st':=by
 have hI:=insB es e i cap pad hi
 have hlt:=lt_of_getElem? e2
 have hfl1:(flat [entA e]).length=4:=rfl
 have ht4:=hI.t4
 have hd4:=hI.d4
 have hi1:(if cap+1=i then 0 else 0+i * 4)=0+i * 4:=if_neg (by omega)
 have hi2:(if cap+1=i+1 then 0 else 0+(i+1) * 4)=(i+1) * 4:=by rw [if_neg (by omega)];omega
 obtain⟨B1,hB1⟩:∃ B1,(flat ((es.drop i).map entA)++pad).drop 4=B1:=⟨_,rfl⟩
 obtain⟨A1,hA1⟩:∃ A1,(flat ((es.drop i).map entA)++pad).take 4=A1:=⟨_,rfl⟩
 have hA1l:A1.length=4:=by
  rw [← hA1,List.length_take,List.length_append,hd4]
  omega
 obtain⟨X1,hX1⟩:∃ X1,flat ((es.take i).map entA)++A1++flat ((es.drop i).map entA)++B1.drop ((es.length - i) * 4)=X1:=⟨_,rfl⟩
 have hsp1:zp (flat (es.map entA)++pad) ((i+1) * 4) (flat ((es.drop i).map entA))=X1:=by
  have e1:flat (es.map entA)++pad=(flat ((es.take i).map entA)++A1)++B1:=by rw [hI.split,List.append_assoc,← hA1,← hB1,List.take_append_drop]
  rw [e1,qcm _ _ _ (by rw [List.length_append,ht4,hA1l];omega),hd4,hX1]
 have hsp2:zp X1 (0+i * 4) (flat [entA e])=flat ((es.take i++e::es.drop i).map entA)++B1.drop ((es.length - i) * 4):=by
  have e1:X1=flat ((es.take i).map entA)++(A1++(flat ((es.drop i).map entA)++B1.drop ((es.length - i) * 4))):=by rw [← hX1];simp
  rw [e1,qcm _ _ _ (by rw [ht4];omega),hfl1,List.drop_append_of_le_length (by omega),List.drop_eq_nil_of_le (by omega:A1.length≤4),hI.new]
  simp
 have hsl1:X1.length=(cap+1) * 4:=by
  rw [← hsp1,qgd (by rw [e3,hd4];omega),e3]
 have hsl2:(flat ((es.take i++e::es.drop i).map entA)++B1.drop ((es.length - i) * 4)).length=(cap+1) * 4:=by
  rw [← hsp2,qgd (by rw [hsl1,hfl1];omega),hsl1]
 have hsrc:=hI.src o ver (es.length+1 - i) (cap+1 - i) st e3 (by omega) e2
 have hnl:=hI.nl
 generalize hXn:flat ((es.take i++e::es.drop i).map entA)++B1.drop ((es.length - i) * 4)=Xn at hsp2 hsl2
 clear hX1 hB1 hA1 hI ht4 hd4
 generalize hdz:flat ((es.drop i).map entA)=dz at hsp1 hsrc
 refine qp Tryz.func231 rfl (Nat.le_of_ble_eq_true rfl) ?_
 rw [List.append_nil]
 generalize flat (es.map entA)++pad=X0 at e2 e3 hsp1
 repeat' (first|apply qm|apply qg|apply qf|apply qk|apply qh)
 refine zo (o:=o) (ver:=ver) (off:=0) (len:=es.length) (cap:=cap+1) (sz:=4) (i:=i) (j:=es.length) (m:=cap+1) rfl rfl rfl ?_ ?_ ?_ (by omega) (by omega) (by omega) ?_
 ·exact⟨_,rfl⟩
 ·exact⟨rfl,rfl⟩
 ·exact rfl
 repeat' (first|(apply jp (n:=1);(iterate 4 exact rfl))|apply qm|apply qg|apply qf|apply qk|apply qh|(apply q5;(iterate 3 exact rfl))|(apply qc;exact rfl;apply xl;exact cAo)|(apply jp;(iterate 4 exact rfl))|(apply z7;exact rfl;exact rfl;exact zj (by omega) (by omega))|apply qz)
 refine qo2 rfl rfl rfl ?_
 repeat' (first|apply qm|apply qg|apply qf|apply qk|(apply q5;(iterate 3 exact rfl))|(apply qc;exact rfl;apply xl;exact cAo)|(apply z7;exact rfl;exact rfl;exact zj (by omega) (by omega))|apply qz)
 refine zo (o:=o) (ver:=ver) (off:=0) (len:=es.length) (cap:=cap+1) (sz:=4) (i:=0) (j:=es.length+1) (m:=cap+1) rfl rfl rfl ?_ ?_ ?_ (by omega) (by omega) (by omega) ?_
 ·exact rfl
 ·exact⟨_,rfl⟩
 ·exact rfl
 repeat' (first|apply qm|apply qg|apply qf|apply qk|apply qh|(apply z7;exact rfl;exact rfl;exact zj (by omega) (by omega)))
 refine zo (o:=o) (ver:=ver) (off:=0) (len:=es.length+1) (cap:=cap+1) (sz:=4) (i:=i+1) (j:=es.length+1) (m:=cap+1) rfl rfl rfl ?_ ?_ ?_ (by omega) (by omega) (by omega) ?_
 ·exact⟨_,rfl⟩
 ·exact⟨rfl,rfl⟩
 ·exact rfl
 rw [hi2]
 repeat' (first|(apply q6v;first|apply qm|apply q8|apply qg|(apply qc;exact rfl;apply xm;exact cAo)|(apply qc;exact rfl;apply xl;exact cAo)|(apply qc;exact rfl;apply qmc;exact cRa)|(apply qc;exact rfl;apply qpk;exact cRa)|(apply qc;exact rfl;apply cd_n <;> intro h)|(apply qc;exact rfl;apply cd_t;exact cRa)|(apply qc;exact rfl;apply cd_f;exact cRa)|(apply qc;exact rfl;apply cd_d <;> intro h)|(apply qc;exact rfl;apply cd_s <;> intro h)|apply qz|apply vj|apply qx)|(apply q0y;first|(apply za;(iterate 4 exact rfl))|(apply qc3;(iterate 4 exact rfl)))|(apply q98;first|(apply qa4;exact cAo)|(apply qbx;exact cAo)|(apply qby;exact cAo)|(apply qdi;exact cAo)|(apply qs3;exact cRa)|(apply qas;exact cRa)|(apply qca;exact cRa)|(apply qp0;exact cRa)|(apply qji <;> intro h)|(apply qc6;exact cRa)|(apply qgy;exact cRa)|(apply qat;exact cRa)|(apply qbz;exact cRa)|(apply xe <;> intro h)|(apply qgz <;> intro h))|(apply q97;first|apply qpf|(apply q9h;(iterate 4 exact rfl))|(apply zby;exact rfl;exact rfl;exact zj (by omega) (by omega))|(apply q9j;(iterate 4 exact rfl);exact cAs;exact cAs)|(apply qxv;(iterate 5 exact rfl))|(apply qsk;exact rfl;exact rfl;exact cOs)|(apply qpe;(iterate 3 exact rfl))|(apply qmx;(iterate 5 exact rfl))|(apply qpb;(iterate 4 exact rfl))|(apply qpa;(iterate 3 exact rfl))|(apply q2m;(iterate 3 exact rfl);exact cAs)|(apply qy2;exact rfl;exact rfl)|(apply qu2;exact rfl;exact rfl)|(apply qu3;(iterate 3 exact rfl);omega)|(apply qsj;(iterate 3 exact rfl))|apply qma|apply qsi|(apply zbw;exact rfl;exact rfl;exact zj (by omega) (by omega))|(apply q9i;(iterate 3 exact rfl))|(apply qy3;(iterate 3 exact rfl);exact cAs)|(apply qy1;(iterate 3 exact rfl);exact cAs)|(apply qo9;exact rfl;exact rfl))|(apply q0x;first|(apply q5;(iterate 3 exact rfl))|(apply jl;(iterate 3 exact rfl))|(apply kp;exact rfl;exact rfl;exact cOs)|(apply z7;exact rfl;exact rfl;exact zj (by omega) (by omega))|(apply qbt;exact rfl;exact rfl;exact zj (by omega) (by omega))|(apply wd;exact rfl;exact rfl)|(apply vi;exact rfl;exact rfl)|(apply qfh;exact rfl;exact rfl)|(apply qfj;exact rfl;exact rfl)|(apply qa9;(iterate 3 exact rfl))|(apply qkg;(iterate 3 exact rfl))|(apply qfu;exact rfl;exact rfl;(first|exact kf _|exact rfl);first|exact kf _|exact rfl)|(apply qi6;exact rfl;exact rfl;(first|exact kf _|exact rfl);first|exact kf _|exact rfl)|(apply q2k;exact rfl;exact rfl;(first|exact kf _|exact rfl);first|exact kf _|exact rfl)|(apply qdt;(iterate 3 exact rfl))|(apply qfs;(iterate 3 exact rfl)))|(apply q3g;first|(apply jv;(iterate 3 exact rfl))|(apply qkf;(iterate 5 exact rfl))|(apply jr;(iterate 5 exact rfl)))|(apply q3h;first|(apply qo6;exact rfl)|(apply jf;exact rfl)|(apply qgn;exact rfl))|(apply q0z;first|(apply qks;(iterate 3 exact rfl);exact cAs)|(apply qsd;(iterate 3 exact rfl);exact cAs)|(apply qse;(iterate 4 exact rfl);exact cAs;exact cAs)|(apply qil;(iterate 4 exact rfl);(first|assumption|omega|exact Nat.succ_le_succ (Nat.zero_le _)|(simp;omega));exact rfl))|(apply q3f;first|(apply vw;(iterate 3 exact rfl))|(apply jp;(iterate 4 exact rfl)))|(apply qrn;first|(apply zf;(iterate 3 exact rfl))|(apply qai;(iterate 4 exact rfl)))|(apply q00;first|(apply qd8;(iterate 11 exact rfl))|(apply zv;(iterate 11 exact rfl)))|(apply q6w;first|apply qf|apply qk|apply qh|(apply ze;exact rfl;exact rfl)|(apply qn;exact rfl;apply qbp;exact cAo)|(apply qn;exact rfl;apply qci;exact cAo)|(apply qn;exact rfl;apply qjx;exact cRa)|(apply qn;exact rfl;apply qf9;exact cRa)|(apply qn;exact rfl;apply pk_t;exact cRa)|(apply qn;exact rfl;apply pk_f;exact cRa)|(apply va;exact rfl;exact rfl)|apply qfi|(apply jm;exact rfl;exact rfl)|(apply qbs;(iterate 4 exact rfl))|(apply qi7;(iterate 3 exact rfl))|(apply qns;(iterate 3 exact rfl);exact cAs)|(apply x2;(iterate 3 exact rfl))|(apply xb;(iterate 9 exact rfl))|(apply wv;exact rfl;exact rfl)|(apply qia;(iterate 4 exact rfl);(first|assumption|omega|decide);exact rfl)|(apply qbj;(iterate 4 exact rfl);first|assumption|omega|decide)))
 refine qty (xs:=[entA e]) (o:=o) (ver:=ver) rfl rfl e2 (by simp [flat,AV.cells]) qwv ?_
 repeat' (first|apply qm|apply qf|(apply jf;exact rfl)|(apply qc;exact rfl;apply qmc;exact cRa))
 refine qdf [(0,.os o ver 0 (es.length+1) (cap+1)),(1,Iv i),(2,.sl 4 [entA e] none),(7,Iv 1)] st [] ⟨rfl,rfl,rfl,rfl,trivial⟩ rfl rfl fun t=>?_
 refine qrg (fun s=>StA [(0,.os o ver 0 (es.length+1) (cap+1)),(1,Iv i),(2,.sl 4 [entA e] none)] (st.set o (.cells ver 152 X1)) [] s) ?_ ?_
 ·refine qhj rfl rfl ?_
  (apply xh 0;exact rfl;kernel_rfl;kernel_rfl;kernel_rfl;exact rfl;exact ya)
  (apply xh 1;exact rfl;kernel_rfl;kernel_rfl;kernel_rfl;exact rfl;exact ya)
  (apply xh 2;exact rfl;kernel_rfl;kernel_rfl;kernel_rfl;exact rfl;exact ya)
  (apply xh 5;exact rfl;kernel_rfl;kernel_rfl;kernel_rfl;exact rfl;exact ya)
  (apply xh 6;exact rfl;kernel_rfl;kernel_rfl;kernel_rfl;exact rfl;exact ya)
  refine v7 [3,7] (by kernel_rfl) rfl ⟨⟨_,rfl,?_⟩,⟨_,rfl,?_⟩,trivial⟩
  ·(apply z7;exact rfl;exact rfl;exact zj (by omega) (by omega))
   apply qf
   refine v7 [4,7] (by kernel_rfl) rfl ⟨⟨_,rfl,?_⟩,⟨_,rfl,?_⟩,trivial⟩
   ·(refine zo (o:=o) (ver:=ver) (off:=0) (len:=es.length+1) (cap:=cap+1) (sz:=4) (i:=i+1) (j:=es.length+1) (m:=cap+1) rfl rfl rfl ?_ ?_ ?_ (by omega) (by omega) (by omega) ?_;exact⟨_,rfl⟩;exact⟨rfl,rfl⟩;exact rfl;rw [hi2])
    apply qf
    refine v7 [7] (by kernel_rfl) rfl ⟨⟨_,rfl,?_⟩,trivial⟩
    (refine zo (o:=o) (ver:=ver) (off:=0) (len:=es.length+1) (cap:=cap+1) (sz:=4) (i:=i) (j:=es.length+1) (m:=cap+1) rfl rfl rfl ?_ ?_ ?_ (by omega) (by omega) (by omega) ?_;exact⟨_,rfl⟩;exact⟨rfl,rfl⟩;exact rfl;rw [hi1])
    apply qf
    refine v7 [8] (by kernel_rfl) rfl ⟨⟨_,rfl,?_⟩,trivial⟩
    (refine yj (o:=o) (ver:=ver) (off:=(i+1) * 4) (sz:=4) (bytes:=56) (m:=es.length - i) rfl rfl e2 hsrc ?_ rfl ⟨⟨_,_,rfl,rfl,rfl,rfl,rfl⟩⟩ ?_ ?_;(show min _ _=_;omega);(rw [e3];omega);rw [hsp1])
    apply qf
    refine qbc (by kernel_rfl) ?_
    exact wa ⟨rfl,rfl,rfl,trivial⟩
   ·(refine zo (o:=o) (ver:=ver) (off:=0) (len:=es.length+1) (cap:=cap+1) (sz:=4) (i:=i) (j:=es.length+1) (m:=cap+1) rfl rfl rfl ?_ ?_ ?_ (by omega) (by omega) (by omega) ?_;exact⟨_,rfl⟩;exact⟨rfl,rfl⟩;exact rfl;rw [hi1])
    apply qf
    refine v7 [4] (by kernel_rfl) rfl ⟨⟨_,rfl,?_⟩,trivial⟩
    (refine zo (o:=o) (ver:=ver) (off:=0) (len:=es.length+1) (cap:=cap+1) (sz:=4) (i:=i+1) (j:=es.length+1) (m:=cap+1) rfl rfl rfl ?_ ?_ ?_ (by omega) (by omega) (by omega) ?_;exact⟨_,rfl⟩;exact⟨rfl,rfl⟩;exact rfl;rw [hi2])
    apply qf
    refine v7 [8] (by kernel_rfl) rfl ⟨⟨_,rfl,?_⟩,trivial⟩
    (refine yj (o:=o) (ver:=ver) (off:=(i+1) * 4) (sz:=4) (bytes:=56) (m:=es.length - i) rfl rfl e2 hsrc ?_ rfl ⟨⟨_,_,rfl,rfl,rfl,rfl,rfl⟩⟩ ?_ ?_;(show min _ _=_;omega);(rw [e3];omega);rw [hsp1])
    apply qf
    refine qbc (by kernel_rfl) ?_
    exact wa ⟨rfl,rfl,rfl,trivial⟩
  ·(refine zo (o:=o) (ver:=ver) (off:=0) (len:=es.length+1) (cap:=cap+1) (sz:=4) (i:=i) (j:=es.length+1) (m:=cap+1) rfl rfl rfl ?_ ?_ ?_ (by omega) (by omega) (by omega) ?_;exact⟨_,rfl⟩;exact⟨rfl,rfl⟩;exact rfl;rw [hi1])
   apply qf
   refine v7 [3] (by kernel_rfl) rfl ⟨⟨_,rfl,?_⟩,trivial⟩
   (apply z7;exact rfl;exact rfl;exact zj (by omega) (by omega))
   apply qf
   refine v7 [4] (by kernel_rfl) rfl ⟨⟨_,rfl,?_⟩,trivial⟩
   (refine zo (o:=o) (ver:=ver) (off:=0) (len:=es.length+1) (cap:=cap+1) (sz:=4) (i:=i+1) (j:=es.length+1) (m:=cap+1) rfl rfl rfl ?_ ?_ ?_ (by omega) (by omega) (by omega) ?_;exact⟨_,rfl⟩;exact⟨rfl,rfl⟩;exact rfl;rw [hi2])
   apply qf
   refine v7 [8] (by kernel_rfl) rfl ⟨⟨_,rfl,?_⟩,trivial⟩
   (refine yj (o:=o) (ver:=ver) (off:=(i+1) * 4) (sz:=4) (bytes:=56) (m:=es.length - i) rfl rfl e2 hsrc ?_ rfl ⟨⟨_,_,rfl,rfl,rfl,rfl,rfl⟩⟩ ?_ ?_;(show min _ _=_;omega);(rw [e3];omega);rw [hsp1])
   apply qf
   refine qbc (by kernel_rfl) ?_
   exact wa ⟨rfl,rfl,rfl,trivial⟩
 ·rintro _ ⟨t,rfl⟩
  have hob:(st.set o (AObj.cells ver 152 X1))[o]? = some (.cells ver 152 X1):=js e2
  repeat' (first|apply qm|apply qg|apply qk)
  refine zo (o:=o) (ver:=ver) (off:=0) (len:=es.length+1) (cap:=cap+1) (sz:=4) (i:=i) (j:=es.length+1) (m:=cap+1) rfl rfl rfl ?_ ?_ ?_ (by omega) (by omega) (by omega) ?_
  ·exact⟨_,rfl⟩
  ·exact⟨rfl,rfl⟩
  ·exact rfl
  rw [hi1]
  repeat' (first|apply qk)
  refine yj (o:=o) (ver:=ver) (off:=0+i * 4) (sz:=4) (bytes:=56) (L:=1) (m:=1) rfl rfl hob (.sl [entA e] none rfl) ?_ rfl ⟨⟨_,_,rfl,rfl,rfl,rfl,rfl⟩⟩ ?_ ?_
  ·show min _ _=_
   omega
  ·rw [hsl1]
   omega
  rw [hsp2]
  repeat' (first|apply qm|apply qg|apply qf|apply qk|apply qh|apply qx)
  refine qo rfl (zi rfl) ?_
  show OwnR 4 152 _ st _ (.os o ver 0 (es.length+1) (cap+1)) ((st.set o _).set o (.cells ver 152 Xn))
  rw [List.set_set,← hXn]
  rw [← hXn] at hsl2
  exact⟨.inr ⟨o,ver,cap,_,by rw [List.length_map,hnl],js e2,hsl2,qgr _,by rw [List.length_map,hnl];omega,e6⟩,by simp,fun j hj hne=>List.getElem?_set_ne fun e=>hne (by rw [e];rfl),fun o' ho'=>.inr ho'⟩
set_option maxHeartbeats 4000000 in
theorem zbh (es:List EntV) (e:EntV) (i:Nat) (hi:i<es.length) (hl:es.length<1000000) (st:List AObj) (o ver cap:Nat) (pad:List AV) (e2:st[o]? = some (.cells ver 152 (flat (es.map entA)++pad))) (e3:(flat (es.map entA)++pad).length=(cap+1) * 4) (e5:es.length=cap+1) (e6:cap+1≤maxLen) :
  ql E 231 [.os o ver 0 es.length (cap+1),Iv i,.sl 4 [entA e] none] st fun r st'=>OwnR 4 152 ((es.take i++e::es.drop i).map entA) st (.os o ver 0 es.length (cap+1)) r st':=by
 have hI:=insB es e i cap pad hi
 have hlt:=lt_of_getElem? e2
 have hfl1:(flat [entA e]).length=4:=rfl
 have ht4:=hI.t4
 have hd4:=hI.d4
 have htake:=hI.take
 have hi1:(if cap+1=i then 0 else 0+i * 4)=0+i * 4:=if_neg (by omega)
 have hsrc:=fun S=>hI.src o ver (es.length - i) (cap+1 - i) S e3 (by omega)
 have hnl:=hI.nl
 have hnew:=hI.new
 have hk9:Iv ((es.length:Int)+1 - i)=Iv ((es.length+1 - i:Nat):Int):=congrArg (fun z:Int=>Iv z) (by omega)
 have hkk:i+(es.length+1 - i)=es.length+1:=by omega
 generalize flat ((es.drop i).map entA)=dz at hsrc hd4 hnew
 refine qp Tryz.func231 rfl (Nat.le_of_ble_eq_true rfl) ?_
 rw [List.append_nil]
 generalize flat (es.map entA)++pad=X0 at e2 e3 htake hsrc
 repeat' (first|apply qm|apply qg|apply qf|apply qk|apply qh)
 refine zo (o:=o) (ver:=ver) (off:=0) (len:=es.length) (cap:=cap+1) (sz:=4) (i:=i) (j:=es.length) (m:=cap+1) rfl rfl rfl ?_ ?_ ?_ (by omega) (by omega) (by omega) ?_
 ·exact⟨_,rfl⟩
 ·exact⟨rfl,rfl⟩
 ·exact rfl
 repeat' (first|(apply jp (n:=1);(iterate 4 exact rfl))|apply qm|apply qg|apply qf|apply qk|apply qh|(apply q5;(iterate 3 exact rfl))|(apply qc;exact rfl;apply xl;exact cAo)|(apply jp;(iterate 4 exact rfl))|(apply z7;exact rfl;exact rfl;exact zj (by omega) (by omega))|apply qz)
 refine qo2 rfl rfl rfl ?_
 refine qo7 [(0,.os o ver 0 es.length (cap+1)),(1,Iv i),(2,.sl 4 [entA e] none),(7,Iv 1),(8,Iv es.length),(28,Iv ((es.length:Int)+1)),(30,Iv ((cap+1:Nat):Int))] st [] ⟨rfl,rfl,rfl,rfl,rfl,rfl,rfl,trivial⟩ rfl rfl fun t=>?_
 repeat' (first|apply qm|apply qg|apply qf|apply qk|(apply q5;(iterate 3 exact rfl))|(apply qc;exact rfl;apply xm;exact cAo))
 refine zo (o:=o) (ver:=ver) (off:=0) (len:=es.length) (cap:=cap+1) (sz:=4) (i:=0) (j:=i) (m:=cap+1) rfl rfl rfl ?_ ?_ ?_ (by omega) (by omega) (by omega) ?_
 ·exact rfl
 ·exact⟨_,rfl⟩
 ·exact rfl
 repeat' (first|apply qk|(apply z7;exact rfl;exact rfl;exact zj (by omega) (by omega))|(apply qbt;exact rfl;exact rfl;exact zj (by omega) (by omega)))
 refine qnq (sz:=4) (bytes:=56) (o:=o) (ver:=ver) (n:=i) (cap:=cap+1) (k:=es.length+1 - i) (cs:=X0) rfl hk9 e2 rfl rfl ⟨⟨_,_,rfl,rfl,rfl,rfl,rfl⟩⟩ (by omega) (by omega) (by omega) (by rw [e3];omega) (by simp only [maxLen];omega) (by omega) fun cap' zs z1 z2 z3=>?_
 rw [hkk,htake]
 refine qo7 [(0,.os o ver 0 es.length (cap+1)),(1,Iv i),(2,.sl 4 [entA e] none),(7,Iv 1),(40,.os st.length 0 0 (es.length+1) cap')] (st++[.cells 0 152 (flat ((es.take i).map entA)++zs)]) [] ⟨rfl,rfl,rfl,rfl,rfl,trivial⟩ rfl rfl fun t=>?_
 obtain⟨cap',rfl⟩:∃ c,cap'=c+1:=⟨cap' - 1,by omega⟩
 have hi3:(if cap'+1=i then 0 else 0+i * 4)=0+i * 4:=if_neg (by omega)
 have hi4:(if cap'+1=i+1 then 0 else 0+(i+1) * 4)=(i+1) * 4:=by rw [if_neg (by omega)];omega
 have hsp1:zp (flat ((es.take i).map entA)++zs) (0+i * 4) (flat [entA e])=(flat ((es.take i).map entA)++flat [entA e])++zs.drop 4:=qcm _ _ _ (by rw [ht4];omega)
 have hsp2:zp ((flat ((es.take i).map entA)++flat [entA e])++zs.drop 4) ((i+1) * 4) dz=flat ((es.take i++e::es.drop i).map entA)++(zs.drop 4).drop dz.length:=by
  rw [qcm _ _ _ (by rw [List.length_append,ht4,hfl1];omega),hnew]
 have hl1:((flat ((es.take i).map entA)++flat [entA e])++zs.drop 4).length=(cap'+1) * 4:=by
  simp only [List.length_append,List.length_drop,ht4,hfl1,z1]
  omega
 have hl2:(flat ((es.take i++e::es.drop i).map entA)++(zs.drop 4).drop dz.length).length=(cap'+1) * 4:=by
  rw [← hsp2,qgd (by rw [hl1,hd4];omega),hl1]
 have hl0:(flat ((es.take i).map entA)++zs).length=(cap'+1) * 4:=by
  rw [List.length_append,ht4,z1]
  omega
 repeat' (first|apply qm|apply qg|apply qf|apply qk|apply qh)
 refine zo (o:=st.length) (ver:=0) (off:=0) (len:=es.length+1) (cap:=cap'+1) (sz:=4) (i:=i) (j:=es.length+1) (m:=cap'+1) rfl rfl rfl ?_ ?_ ?_ (by omega) (by omega) (by omega) ?_
 ·exact⟨_,rfl⟩
 ·exact⟨rfl,rfl⟩
 ·exact rfl
 rw [hi3]
 repeat' (first|apply qk)
 refine yj (o:=st.length) (ver:=0) (off:=0+i * 4) (sz:=4) (bytes:=56) (L:=1) (m:=1) rfl rfl wt (.sl [entA e] none rfl) ?_ rfl ⟨⟨_,_,rfl,rfl,rfl,rfl,rfl⟩⟩ ?_ ?_
 ·show min _ _=_
  omega
 ·rw [hl0]
  omega
 rw [hsp1]
 generalize hX1:(flat ((es.take i).map entA)++flat [entA e])++zs.drop 4=X1 at hsp2 hl1
 have hbo:(st++[AObj.cells 0 152 (flat ((es.take i).map entA)++zs)])[st.length]? = some (.cells 0 152 (flat ((es.take i).map entA)++zs)):=wt
 have hS1n:((st++[AObj.cells 0 152 (flat ((es.take i).map entA)++zs)]).set st.length (.cells 0 152 X1))[st.length]? = some (.cells 0 152 X1):=js hbo
 have hS1o:((st++[AObj.cells 0 152 (flat ((es.take i).map entA)++zs)]).set st.length (.cells 0 152 X1))[o]? = some (.cells ver 152 X0):=by
  rw [List.getElem?_set_ne (by omega),List.getElem?_append_left hlt]
  exact e2
 have hS1j:∀ j,j<st.length→((st++[AObj.cells 0 152 (flat ((es.take i).map entA)++zs)]).set st.length (.cells 0 152 X1))[j]? = st[j]?:=fun j hj=>by
  rw [List.getElem?_set_ne (by omega),List.getElem?_append_left hj]
 have hS1l:((st++[AObj.cells 0 152 (flat ((es.take i).map entA)++zs)]).set st.length (.cells 0 152 X1)).length=st.length+1:=by simp
 repeat' (first|apply qm|apply qf)
 refine qdf [(0,.os o ver 0 es.length (cap+1)),(1,Iv i),(7,Iv 1),(9,.os st.length 0 0 (es.length+1) (cap'+1))] ((st++[AObj.cells 0 152 (flat ((es.take i).map entA)++zs)]).set st.length (.cells 0 152 X1)) [] ⟨rfl,rfl,rfl,rfl,trivial⟩ rfl rfl fun t=>?_
 generalize (st++[AObj.cells 0 152 (flat ((es.take i).map entA)++zs)]).set st.length (.cells 0 152 X1)=S1 at hS1n hS1o hS1j hS1l
 refine qrg (fun s=>StA [(9,.os st.length 0 0 (es.length+1) (cap'+1))] (S1.set st.length (.cells 0 152 (flat ((es.take i++e::es.drop i).map entA)++(zs.drop 4).drop dz.length))) [] s) ?_ ?_
 ·refine qhj rfl rfl ?_
  (apply xh 0;exact rfl;kernel_rfl;kernel_rfl;kernel_rfl;exact rfl;exact ya)
  (apply xh 1;exact rfl;kernel_rfl;kernel_rfl;kernel_rfl;exact rfl;exact ya)
  (apply xh 2;exact rfl;kernel_rfl;kernel_rfl;kernel_rfl;exact rfl;exact ya)
  (apply xh 5;exact rfl;kernel_rfl;kernel_rfl;kernel_rfl;exact rfl;exact ya)
  (apply xh 6;exact rfl;kernel_rfl;kernel_rfl;kernel_rfl;exact rfl;exact ya)
  refine v7 [3,7] (by kernel_rfl) rfl ⟨⟨_,rfl,?_⟩,⟨_,rfl,?_⟩,trivial⟩
  ·(apply z7;exact rfl;exact rfl;exact zj (by omega) (by omega))
   apply qf
   refine v7 [4,7] (by kernel_rfl) rfl ⟨⟨_,rfl,?_⟩,⟨_,rfl,?_⟩,trivial⟩
   ·(refine zo (o:=st.length) (ver:=0) (off:=0) (len:=es.length+1) (cap:=cap'+1) (sz:=4) (i:=i+1) (j:=es.length+1) (m:=cap'+1) rfl rfl rfl ?_ ?_ ?_ (by omega) (by omega) (by omega) ?_;exact⟨_,rfl⟩;exact⟨rfl,rfl⟩;exact rfl;rw [hi4])
    apply qf
    refine v7 [7] (by kernel_rfl) rfl ⟨⟨_,rfl,?_⟩,trivial⟩
    (refine zo (o:=o) (ver:=ver) (off:=0) (len:=es.length) (cap:=cap+1) (sz:=4) (i:=i) (j:=es.length) (m:=cap+1) rfl rfl rfl ?_ ?_ ?_ (by omega) (by omega) (by omega) ?_;exact⟨_,rfl⟩;exact⟨rfl,rfl⟩;exact rfl;rw [hi1])
    apply qf
    refine v7 [8] (by kernel_rfl) rfl ⟨⟨_,rfl,?_⟩,trivial⟩
    (refine yj (o:=st.length) (ver:=0) (off:=(i+1) * 4) (sz:=4) (bytes:=56) (m:=es.length - i) rfl rfl hS1n (hsrc S1 hS1o) ?_ rfl ⟨⟨_,_,rfl,rfl,rfl,rfl,rfl⟩⟩ ?_ ?_;(show min _ _=_;omega);(rw [hl1];omega);rw [hsp2])
    apply qf
    refine qbc (by kernel_rfl) ?_
    exact wa ⟨rfl,trivial⟩
   ·(refine zo (o:=o) (ver:=ver) (off:=0) (len:=es.length) (cap:=cap+1) (sz:=4) (i:=i) (j:=es.length) (m:=cap+1) rfl rfl rfl ?_ ?_ ?_ (by omega) (by omega) (by omega) ?_;exact⟨_,rfl⟩;exact⟨rfl,rfl⟩;exact rfl;rw [hi1])
    apply qf
    refine v7 [4] (by kernel_rfl) rfl ⟨⟨_,rfl,?_⟩,trivial⟩
    (refine zo (o:=st.length) (ver:=0) (off:=0) (len:=es.length+1) (cap:=cap'+1) (sz:=4) (i:=i+1) (j:=es.length+1) (m:=cap'+1) rfl rfl rfl ?_ ?_ ?_ (by omega) (by omega) (by omega) ?_;exact⟨_,rfl⟩;exact⟨rfl,rfl⟩;exact rfl;rw [hi4])
    apply qf
    refine v7 [8] (by kernel_rfl) rfl ⟨⟨_,rfl,?_⟩,trivial⟩
    (refine yj (o:=st.length) (ver:=0) (off:=(i+1) * 4) (sz:=4) (bytes:=56) (m:=es.length - i) rfl rfl hS1n (hsrc S1 hS1o) ?_ rfl ⟨⟨_,_,rfl,rfl,rfl,rfl,rfl⟩⟩ ?_ ?_;(show min _ _=_;omega);(rw [hl1];omega);rw [hsp2])
    apply qf
    refine qbc (by kernel_rfl) ?_
    exact wa ⟨rfl,trivial⟩
  ·(refine zo (o:=o) (ver:=ver) (off:=0) (len:=es.length) (cap:=cap+1) (sz:=4) (i:=i) (j:=es.length) (m:=cap+1) rfl rfl rfl ?_ ?_ ?_ (by omega) (by omega) (by omega) ?_;exact⟨_,rfl⟩;exact⟨rfl,rfl⟩;exact rfl;rw [hi1])
   apply qf
   refine v7 [3] (by kernel_rfl) rfl ⟨⟨_,rfl,?_⟩,trivial⟩
   (apply z7;exact rfl;exact rfl;exact zj (by omega) (by omega))
   apply qf
   refine v7 [4] (by kernel_rfl) rfl ⟨⟨_,rfl,?_⟩,trivial⟩
   (refine zo (o:=st.length) (ver:=0) (off:=0) (len:=es.length+1) (cap:=cap'+1) (sz:=4) (i:=i+1) (j:=es.length+1) (m:=cap'+1) rfl rfl rfl ?_ ?_ ?_ (by omega) (by omega) (by omega) ?_;exact⟨_,rfl⟩;exact⟨rfl,rfl⟩;exact rfl;rw [hi4])
   apply qf
   refine v7 [8] (by kernel_rfl) rfl ⟨⟨_,rfl,?_⟩,trivial⟩
   (refine yj (o:=st.length) (ver:=0) (off:=(i+1) * 4) (sz:=4) (bytes:=56) (m:=es.length - i) rfl rfl hS1n (hsrc S1 hS1o) ?_ rfl ⟨⟨_,_,rfl,rfl,rfl,rfl,rfl⟩⟩ ?_ ?_;(show min _ _=_;omega);(rw [hl1];omega);rw [hsp2])
   apply qf
   refine qbc (by kernel_rfl) ?_
   exact wa ⟨rfl,trivial⟩
 ·rintro _ ⟨t,rfl⟩
  repeat' (first|apply qm|apply qg|apply qf|apply qk|apply qh|apply qx)
  refine qo rfl (zi rfl) ?_
  show OwnR 4 152 _ st _ (.os st.length 0 0 (es.length+1) (cap'+1)) (S1.set st.length (.cells 0 152 (flat ((es.take i++e::es.drop i).map entA)++(zs.drop 4).drop dz.length)))
  refine⟨.inr ⟨st.length,0,cap',_,by rw [List.length_map,hnl],js hS1n,hl2,qgr _,by rw [List.length_map,hnl];omega,z3⟩,by rw [List.length_set,hS1l];omega,fun j hj _=>?_,fun o' ho'=>?_⟩
  ·rw [List.getElem?_set_ne (by omega)]
   exact hS1j j hj
  ·simp only [zh,Option.some.injEq] at ho'
   left
   omega
theorem q5d (es:List EntV) (e:EntV) (i:Nat) (hi:i≤es.length) (hl:es.length<1000000) (st:List AObj) (c:AV) (hc:OwnS st 4 152 (es.map entA) c):ql E 231 [c,Iv i,.sl 4 [entA e] none] st fun r st'=>OwnR 4 152 ((es.take i++e::es.drop i).map entA) st c r st':=by
 have hml:(es.map entA).length=es.length:=by simp
 have hap:i=es.length→(es.take i++e::es.drop i).map entA=es.map entA++[entA e]:=fun h=>by subst h;simp
 rcases hc with⟨h0,hnr⟩ | ⟨o,ver,cap,pad,rfl,e2,e3,e4,e5,e6⟩
 ·have hes:es=[]:=by simpa using h0
  subst hes
  obtain rfl:i=0:=by simpa using hi
  rw [hap rfl]
  exact zbf e st c hnr
 ·rw [hml] at e5 ⊢
  by_cases hin:i=es.length
  ·rw [hap hin]
   subst hin
   exact zbg es e hl st o ver cap pad e2 e3 e5 e6
  ·by_cases hroom:es.length+1≤cap+1
   ·exact zbi es e i (by omega) hl st o ver cap pad e2 e3 hroom e6
   ·exact zbh es e i (by omega) hl st o ver cap pad e2 e3 (by omega) e6
end Go.Proofs.YtneejjefekdgjaaGreatDoor
namespace Go.Pl
open Go Go.Proofs
def qh4 (l:qs) (i:Nat) (x:qt):qs:=match l.ents[i]? with
 |some e=>⟨l.ents.set i ⟨x,e.id⟩,l.next,l.many⟩
 |none=>l
def yh (l:qs) (id:Int) (fs:List Fld):ErrV×qs:=if atF l id<0 then (.num 7,l) else if kh fs = .no then (.no,qh4 l (atF l id).toNat (xf fs)) else (kh fs,l)
def delL (l:qs) (i:Nat):qs:=⟨l.ents.take i++l.ents.drop (i+1),l.next,l.many - 1⟩
def delF (l:qs) (id:Int):ErrV×qs:=if atF l id<0 then (.num 7,l) else (.no,delL l (atF l id).toNat)
def insL (l:qs) (k:Nat) (x:qt):qs:=⟨l.ents.take k++⟨x,l.next⟩::l.ents.drop k,l.next+1,l.many+1⟩
def insF (l:qs) (id:Int) (fs:List Fld):Int×ErrV×qs:=
 if atF l id<0∧id≠0 then (0,.num 7,l) else if kh fs = .no then (if 400≤l.many then (0,.num 11,l) else (l.next,.no,insL l (atF l id+1).toNat (xf fs))) else (0,kh fs,l)
structure LB (n:Nat) (l:qs):Prop where
 small:n<900000
 len:l.ents.length≤n
 nx0:1≤l.next
 nx1:l.next≤n+1
 mn0 : -(n:Int)≤l.many
 mn1:l.many≤n
theorem q8c {n:Nat} {l:qs} (h:LB n l) (hs:n+1<900000) (id:Int) (fs:List Fld):LB (n+1) (yh l id fs).2:=by
 have h1:=h.len;have h2:=h.nx0;have h3:=h.nx1;have h4:=h.mn0;have h5:=h.mn1
 unfold yh
 split
 ·exact⟨hs,by simp only;omega,h2,by simp only;omega,by simp only;omega,by simp only;omega⟩
 ·split
  ·unfold qh4
   split
   ·exact⟨hs,by simp;omega,h2,by simp only;omega,by simp only;omega,by simp only;omega⟩
   ·exact⟨hs,by simp only;omega,h2,by simp only;omega,by simp only;omega,by simp only;omega⟩
  ·exact⟨hs,by simp only;omega,h2,by simp only;omega,by simp only;omega,by simp only;omega⟩
theorem q94 {n:Nat} {l:qs} (h:LB n l) (hs:n+1<900000) (id:Int):LB (n+1) (delF l id).2:=by
 have h1:=h.len;have h2:=h.nx0;have h3:=h.nx1;have h4:=h.mn0;have h5:=h.mn1
 unfold delF
 split
 ·exact⟨hs,by simp only;omega,h2,by simp only;omega,by simp only;omega,by simp only;omega⟩
 ·exact⟨hs,by simp [delL];omega,h2,by simp only [delL];omega,by simp only [delL];omega,by simp only [delL];omega⟩
theorem zai {n:Nat} {l:qs} (h:LB n l) (hs:n+1<900000) (id:Int) (fs:List Fld):LB (n+1) (insF l id fs).2.2:=by
 have h1:=h.len;have h2:=h.nx0;have h3:=h.nx1;have h4:=h.mn0;have h5:=h.mn1
 have same:LB (n+1) l:=⟨hs,by omega,h2,by omega,by omega,by omega⟩
 unfold insF
 split
 ·exact same
 ·split
  ·split
   ·exact same
   ·exact⟨hs,by simp [insL];omega,by simp only [insL];omega,by simp only [insL];omega,by simp only [insL];omega,by simp only [insL];omega⟩
  ·exact same
end Go.Pl
namespace Go.Proofs.YtneejjefekdgjaaGreatDoor
open Go Go.Av Go.RowKit Go.Proofs Go.Pl
def oneF (l:qs) (x:qq):Int×ErrV×qs:=if x.kind=1 then (0,yh l x.id x.fields) else if x.kind=2 then (0,delF l x.id) else insF l x.id x.fields
theorem qrv {n:Nat} {l:qs} (h:LB n l) (hs:n+1<900000) (x:qq):LB (n+1) (oneF l x).2.2:=by
 unfold oneF
 split
 ·exact q8c h hs _ _
 ·split
  ·exact q94 h hs _
  ·exact zai h hs _ _
theorem zap (l:qs) (hl:l.ents.length<1000000):kr E 93 [.a (jx l)] 0 (hpF []) ⟨.bx 0 0,vb [],lstH 1 l++vl [],2⟩:=by
 refine wr [.a (jx l)] [] 0 (.bx 0 0) (lstH 1 l) 2 Tryz.func93 rfl rfl rfl rfl fun S F ρ=>?_
 apply qd [19]
 repeat' (first|apply And.intro|(intro h;try exact cDd)|exact⟨Tryz.call153⟩|(refine Exists.intro _ ⟨qx4 [.sl 4 (l.ents.map entA) none] _ (fun _=>rfl) (fun st=>q0p l.ents st hl),?_⟩)|exact cSd|apply qb [19]|refine exr ?_|refine qj ?_)
theorem zat (n:Nat) (l:qs) (id:Int) (fs:List Fld) (hB:LB n l) (hK:KeyB fs) (hl:fs.length<1000000):kr E 154 [.bx 0 0,.i id,.a (vm fs)] 2 (hpF (lstH 1 l)) ⟨.a (errA (yh l id fs).1),vb (lstH 1 l),lstH 2 (yh l id fs).2++vl (lstH 1 l),3⟩:=by
 refine wr [.bx 0 0,.i id,.a (vm fs)] (lstH 1 l) 2 (.a (errA (yh l id fs).1)) (lstH 2 (yh l id fs).2) 3 Tryz.func154 rfl rfl rfl rfl fun S F ρ=>?_
 have hle:=hB.len
 have hsm:=hB.small
 have h1:=qrf l id (by omega)
 have h2:=fun st=>qzp fs st hK hl
 unfold yh
 rcases qgo l id with h | ⟨i,e,h,he,hid,hid1⟩
 ·rw [h] at h1 ⊢
  rw [if_pos (by decide)]
  apply qd []
  repeat' (first|apply And.intro|(intro h;try exact cDd)|exact⟨Tryz.call77⟩|(refine z6 h1 ?_)|exact cSd|apply qb []|refine exr ?_|refine qj ?_)
 ·rw [h] at h1 ⊢
  rw [if_neg (by omega)]
  have hm:(l.ents.map entA)[i]? = some (entA e):=by rw [List.getElem?_map,he];rfl
  have hil:=lt_of_getElem? hm
  unfold xf at h2 ⊢
  cases hc:kh fs with
  |no=>
   rw [hc,if_pos rfl] at h2
   rw [if_pos rfl,if_pos rfl]
   unfold qh4
   rw [Int.toNat_natCast,he]
   apply qd []
   repeat' (first|apply And.intro|(intro h;try exact cDd)|exact⟨Tryz.call77⟩|(refine z6 h1 ?_)|exact⟨Tryz.call229⟩|refine cpe h2 ?_|(refine qoh (i:=i) rfl rfl rfl rfl rfl rfl (by omega) ?_)|(refine q4q (i:=i) (j:=0) (z:=entA e) (z':=entA ⟨⟨3,jk fs,fs⟩,e.id⟩) (u:=vh ⟨3,jk fs,fs⟩) rfl rfl (fun _=>rfl) rfl rfl rfl hm rfl rfl ?_)|exact cSd|apply qb []|refine exr ?_|refine qj ?_)
   all_goals (simp [List.map_set];done)
  |num m=>
   rw [hc,if_neg (by simp)] at h2
   rw [if_neg (by simp)]
   apply qd []
   repeat' (first|apply And.intro|(intro h;try exact cDd)|exact⟨Tryz.call77⟩|(refine z6 h1 ?_)|exact⟨Tryz.call229⟩|refine cpe h2 ?_|exact cSd|apply qb []|refine exr ?_|refine qj ?_)
  |at' a m=>
   rw [hc,if_neg (by simp)] at h2
   rw [if_neg (by simp)]
   apply qd []
   repeat' (first|apply And.intro|(intro h;try exact cDd)|exact⟨Tryz.call77⟩|(refine z6 h1 ?_)|exact⟨Tryz.call229⟩|refine cpe h2 ?_|exact cSd|apply qb []|refine exr ?_|refine qj ?_)
theorem zcm (n:Nat) (l:qs) (id:Int) (hB:LB n l):kr E 155 [.bx 0 0,.i id] 2 (hpF (lstH 1 l)) ⟨.a (errA (delF l id).1),vb (lstH 1 l),lstH 2 (delF l id).2++vl (lstH 1 l),3⟩:=by
 refine wr [.bx 0 0,.i id] (lstH 1 l) 2 (.a (errA (delF l id).1)) (lstH 2 (delF l id).2) 3 Tryz.func155 rfl rfl rfl rfl fun S F ρ=>?_
 have hle:=hB.len
 have hsm:=hB.small
 have h4:=hB.mn0
 have h5:=hB.mn1
 have h1:=qrf l id (by omega)
 unfold delF
 rcases qgo l id with h | ⟨i,e,h,he,hid,hid1⟩
 ·rw [h] at h1 ⊢
  rw [if_pos (by decide)]
  apply qd []
  repeat' (first|apply And.intro|(intro h;try exact cDd)|exact⟨Tryz.call77⟩|(refine z6 h1 ?_)|exact cSd|apply qb []|refine exr ?_|refine qj ?_)
 ·rw [h] at h1 ⊢
  rw [if_neg (by omega)]
  have hil:=lt_of_getElem? he
  have h2:=qnw (f:=230) (E:=E) (xs:=l.ents.map entA) [Iv i,Iv ((i:Int)+1)] rfl (fun st c hc=>zda l.ents i hil (by omega) st c hc)
  unfold delL
  rw [Int.toNat_natCast]
  apply qd []
  repeat' (first|apply And.intro|(intro h;try exact cDd)|exact⟨Tryz.call77⟩|(refine z6 h1 ?_)|exact⟨Tryz.call230⟩|(refine z6 h2 ?_)|exact cSd|apply qb []|refine exr ?_|refine qj ?_)
theorem zcq (n:Nat) (l:qs) (id:Int) (fs:List Fld) (hB:LB n l) (hK:KeyB fs) (hl:fs.length<1000000):kr E 156 [.bx 0 0,.i id,.a (vm fs)] 2 (hpF (lstH 1 l)) ⟨.tu [.i (insF l id fs).1,.a (errA (insF l id fs).2.1)],vb (lstH 1 l),lstH 2 (insF l id fs).2.2++vl (lstH 1 l),3⟩:=by
 refine wr [.bx 0 0,.i id,.a (vm fs)] (lstH 1 l) 2 (.tu [.i (insF l id fs).1,.a (errA (insF l id fs).2.1)]) (lstH 2 (insF l id fs).2.2) 3 Tryz.func156 rfl rfl rfl rfl fun S F ρ=>?_
 have hle:=hB.len
 have hsm:=hB.small
 have h4:=hB.mn0
 have h5:=hB.mn1
 have h6:=hB.nx0
 have h7:=hB.nx1
 have h1:=qrf l id (by omega)
 have h2:=fun st=>qzp fs st hK hl
 unfold insF
 rcases qgo l id with h | ⟨i,e,h,he,hid,hid1⟩
 ·rw [h] at h1 ⊢
  by_cases h0:id=0
  ·rw [if_neg (fun q=>q.2 h0)]
   rw [show ((-1:Int)+1).toNat=0 from rfl]
   unfold xf at h2 ⊢
   cases hc:kh fs with
   |no=>
    rw [hc,if_pos rfl] at h2
    rw [if_pos rfl,if_pos rfl]
    by_cases hm:400≤l.many
    ·rw [if_pos hm]
     apply qd []
     repeat' (first|apply And.intro|(intro h;try exact cDd)|exact⟨Tryz.call77⟩|(refine z6 h1 ?_)|exact⟨Tryz.call229⟩|refine cpe h2 ?_|exact cSd|apply qb []|refine exr ?_|refine qj ?_)
    ·rw [if_neg hm]
     have h3:=qnw (f:=231) (E:=E) (xs:=l.ents.map entA) [Iv ((0:Nat):Int),.sl 4 [entA ⟨⟨3,jk fs,fs⟩,l.next⟩] none] rfl (fun st c hc=>q5d l.ents ⟨⟨3,jk fs,fs⟩,l.next⟩ (0) (by omega) (by omega) st c hc)
     unfold insL
     apply qd []
     repeat' (first|apply And.intro|(intro h;try exact cDd)|exact⟨Tryz.call77⟩|(refine z6 h1 ?_)|exact⟨Tryz.call229⟩|refine cpe h2 ?_|exact⟨Tryz.call231⟩|(refine z6 h3 ?_)|exact cSd|apply qb []|refine exr ?_|refine qj ?_)
   |num m=>
    rw [hc,if_neg (by simp)] at h2
    rw [if_neg (by simp)]
    apply qd []
    repeat' (first|apply And.intro|(intro h;try exact cDd)|exact⟨Tryz.call77⟩|(refine z6 h1 ?_)|exact⟨Tryz.call229⟩|refine cpe h2 ?_|exact cSd|apply qb []|refine exr ?_|refine qj ?_)
   |at' a m=>
    rw [hc,if_neg (by simp)] at h2
    rw [if_neg (by simp)]
    apply qd []
    repeat' (first|apply And.intro|(intro h;try exact cDd)|exact⟨Tryz.call77⟩|(refine z6 h1 ?_)|exact⟨Tryz.call229⟩|refine cpe h2 ?_|exact cSd|apply qb []|refine exr ?_|refine qj ?_)
  ·rw [if_pos ⟨by decide,h0⟩]
   apply qd []
   repeat' (first|apply And.intro|(intro h;try exact cDd)|exact⟨Tryz.call77⟩|(refine z6 h1 ?_)|exact cSd|apply qb []|refine exr ?_|refine qj ?_)
 ·rw [h] at h1 ⊢
  have hil:=lt_of_getElem? he
  rw [if_neg (fun q=>absurd q.1 (by omega))]
  rw [show ((i:Int)+1).toNat=i+1 from rfl]
  unfold xf at h2 ⊢
  cases hc:kh fs with
  |no=>
   rw [hc,if_pos rfl] at h2
   rw [if_pos rfl,if_pos rfl]
   by_cases hm:400≤l.many
   ·rw [if_pos hm]
    apply qd []
    repeat' (first|apply And.intro|(intro h;try exact cDd)|exact⟨Tryz.call77⟩|(refine z6 h1 ?_)|exact⟨Tryz.call229⟩|refine cpe h2 ?_|exact cSd|apply qb []|refine exr ?_|refine qj ?_)
   ·rw [if_neg hm]
    have h3:=qnw (f:=231) (E:=E) (xs:=l.ents.map entA) [Iv ((i+1:Nat):Int),.sl 4 [entA ⟨⟨3,jk fs,fs⟩,l.next⟩] none] rfl (fun st c hc=>q5d l.ents ⟨⟨3,jk fs,fs⟩,l.next⟩ (i+1) (by omega) (by omega) st c hc)
    unfold insL
    apply qd []
    repeat' (first|apply And.intro|(intro h;try exact cDd)|exact⟨Tryz.call77⟩|(refine z6 h1 ?_)|exact⟨Tryz.call229⟩|refine cpe h2 ?_|exact⟨Tryz.call231⟩|(refine z6 h3 ?_)|exact cSd|apply qb []|refine exr ?_|refine qj ?_)
  |num m=>
   rw [hc,if_neg (by simp)] at h2
   rw [if_neg (by simp)]
   apply qd []
   repeat' (first|apply And.intro|(intro h;try exact cDd)|exact⟨Tryz.call77⟩|(refine z6 h1 ?_)|exact⟨Tryz.call229⟩|refine cpe h2 ?_|exact cSd|apply qb []|refine exr ?_|refine qj ?_)
  |at' a m=>
   rw [hc,if_neg (by simp)] at h2
   rw [if_neg (by simp)]
   apply qd []
   repeat' (first|apply And.intro|(intro h;try exact cDd)|exact⟨Tryz.call77⟩|(refine z6 h1 ?_)|exact⟨Tryz.call229⟩|refine cpe h2 ?_|exact cSd|apply qb []|refine exr ?_|refine qj ?_)
def xc:Nat→List qq→qs→List Int→ErrV×qs×List Int
 | _,[],l,ids=>(.no,l,ids)
 |k,x::r,l,ids=>if (oneF l x).2.1 = .no then xc (k+1) r (oneF l x).2.2 (if 0<(oneF l x).1 then ids++[(oneF l x).1] else ids) else (.at' k (oneF l x).2.1.code,l,ids)
def doF (l:qs) (b:List qq):ErrV×qs×List Int:=if eErr b = .no then xc 0 b l [] else (eErr b,l,[])
def doA (r:ErrV×qs×List Int):AV:=match r.1 with
 | .no=>.tu [jx r.2.1,qbn r.2.2,errA .no]
 |e=>.tu [.v (.pointer none),qbn [],errA e]
theorem q6u (r:ErrV×qs×List Int):Pure (doA r):=by
 unfold doA
 split
 ·exact qjz (qf6 _) (qcc _) (j6 _)
 ·exact qjz (qu _) (qcc _) (j6 _)
theorem q4j {l:qs} {x:qq} (h:(oneF l x).2.1≠.no):(oneF l x).2.1.code≠0:=by
 have key:∀ fs:List Fld,kh fs≠.no→(kh fs).code≠0:=fun fs h h'=>h ((qk0 fs).1 h')
 unfold oneF at h ⊢
 split
 ·rename_i h1
  rw [if_pos h1] at h
  unfold yh at h ⊢
  split
  ·exact (by decide:(ErrV.num 7).code≠0)
  ·rename_i h2
   rw [if_neg h2] at h
   split
   ·rename_i h3
    rw [if_pos h3] at h
    exact absurd rfl h
   ·exact key _ (by assumption)
 ·rename_i h1
  rw [if_neg h1] at h
  split
  ·rename_i h2
   rw [if_pos h2] at h
   unfold delF at h ⊢
   split
   ·exact (by decide:(ErrV.num 7).code≠0)
   ·rename_i h3
    rw [if_neg h3] at h
    exact absurd rfl h
  ·rename_i h2
   rw [if_neg h2] at h
   unfold insF at h ⊢
   split
   ·exact (by decide:(ErrV.num 7).code≠0)
   ·rename_i h3
    rw [if_neg h3] at h
    split
    ·rename_i h4
     rw [if_pos h4] at h
     split
     ·exact (by decide:(ErrV.num 11).code≠0)
     ·rename_i h5
      rw [if_neg h5] at h
      exact absurd rfl h
    ·exact key _ (by assumption)
theorem zcc (n:Nat) (l:qs) (x:qq) (hB:LB n l) (hK:KeyB x.fields) (hl:x.fields.length<1000000):kr E 94 [.bx 0 0,.a (xd x)] 2 (hpF (lstH 1 l)) ⟨.tu [.i (oneF l x).1,.a (errA (oneF l x).2.1)],vb (lstH 1 l),lstH 2 (oneF l x).2.2++vl (lstH 1 l),3⟩:=by
 refine wr [.bx 0 0,.a (xd x)] (lstH 1 l) 2 (.tu [.i (oneF l x).1,.a (errA (oneF l x).2.1)]) (lstH 2 (oneF l x).2.2) 3 Tryz.func94 rfl rfl rfl rfl fun S F ρ=>?_
 unfold oneF
 by_cases h1:x.kind=1
 ·rw [if_pos h1]
  have hc:=zat n l x.id x.fields hB hK hl
  generalize yh l x.id x.fields=r at hc
  apply qd []
  repeat' (first|apply And.intro|(intro h;try exact cDd)|exact⟨Tryz.call154⟩|(refine z6 hc ?_)|exact cSd|apply qb []|refine exr ?_|refine qj ?_)
 ·rw [if_neg h1]
  by_cases h2:x.kind=2
  ·rw [if_pos h2]
   have hc:=zcm n l x.id hB
   generalize delF l x.id=r at hc
   apply qd []
   repeat' (first|apply And.intro|(intro h;try exact cDd)|exact⟨Tryz.call155⟩|(refine z6 hc ?_)|exact cSd|apply qb []|refine exr ?_|refine qj ?_)
  ·rw [if_neg h2]
   have hc:=zcq n l x.id x.fields hB hK hl
   generalize insF l x.id x.fields=r at hc
   apply qd []
   repeat' (first|apply And.intro|(intro h;try exact cDd)|exact⟨Tryz.call156⟩|(refine z6 hc ?_)|exact cSd|apply qb []|refine exr ?_|refine qj ?_)
theorem q83 (n:Nat) (l:qs) (b:List qq) (st:List AObj) (hB:LB n l) (hn:n+40<900000) (hE:∀ x∈b,EdB x) (hl:b.length<1000000):ql E 46 [jx l,ku b] st fun r st'=>r=doA (doF l b)∧st'=st:=by
 refine qjy [.a (jx l),.a (ku b)] (q6u _) Tryz.func46 rfl rfl (fun _=>rfl) rfl fun S0=>?_
 have hck:=fun st=>qjd b st _ rfl hE (by omega)
 unfold doF
 cases he:eErr b with
 |num m=>
  rw [he] at hck
  rw [if_neg (by simp)]
  apply qd []
  repeat' (first|apply And.intro|(intro h;try exact cDd)|exact⟨Tryz.call92⟩|refine cpe hck ?_|exact cSd|apply qb []|refine exr ?_|refine qj ?_)
 |at' a m=>
  rw [he] at hck
  rw [if_neg (by simp)]
  apply qd []
  repeat' (first|apply And.intro|(intro h;try exact cDd)|exact⟨Tryz.call92⟩|refine cpe hck ?_|exact cSd|apply qb []|refine exr ?_|refine qj ?_)
 |no=>
  rw [he] at hck
  rw [if_pos rfl]
  obtain⟨hb1,hb40,hg⟩:=qed he
  have hcp:=zap l (by have:=hB.len;omega)
  apply qd []
  repeat' (first|apply And.intro|(intro h;try exact cDd)|exact⟨Tryz.call92⟩|refine cpe hck ?_|exact⟨Tryz.call93⟩|(refine z6 hcp ?_)|exact cSd|apply qb []|refine exr ?_|refine qj ?_)
  refine wm (X:=Nat×qs×List Int) (fun (k,q,ids)=>⟨[(8,.bx 0 0),(9,.tp 2),(21,.a (ku b)),(22,.i b.length),(23,.i k)],[(0,some (.cells 156 [.tp 1,.i q.next,.i q.many])),(1,some (.own 4 152 (q.ents.map entA))),(2,some (.tip 1 3 (ids.map fun x=>Iv x)))],3⟩)
   (fun (k,q,ids)=>k≤b.length∧LB (n+k) q∧ids.length≤k∧xc k (b.drop k) q ids=xc 0 b l []) (fun (k,q,ids)=>b.length - k) (0,l,[]) ⟨by omega,hB,by simp,rfl⟩ ?_ ?_
  ·skip
   repeat' (first|apply And.intro|(intro h;try exact cDd)|exact cSd|apply qb []|refine exr ?_|refine qj ?_)
   all_goals (simp;done)
  ·rintro⟨k,q,ids⟩ ⟨hk,hq,hil,hrun⟩
   by_cases hkn:k<b.length
   ·have hx:b[k]? = some b[k]:=List.getElem?_eq_getElem hkn
    have hxm:(b.map xd)[k]? = some (xd b[k]):=by rw [List.getElem?_map,hx];rfl
    have hxE:=hE b[k] (List.getElem_mem hkn)
    have hxf:=(qme (hg b[k] (List.getElem_mem hkn))).1
    rw [List.drop_eq_getElem_cons hkn,xc] at hrun
    have hidl:(ids.map fun x=>Iv x).length=ids.length:=by simp
    generalize b[k]=x at hx hxm hxE hxf hrun
    have hon:=zcc (n+k) q x hq hxE.keys (by omega)
    have hlb:=qrv hq (by omega) x
    have hcd:=fun h=>q4j (l:=q) (x:=x) h
    generalize oneF q x=o at hon hlb hcd hrun
    obtain⟨id,e,q'⟩:=o
    dsimp only at hon hlb hcd hrun
    cases e with
    |no=>
     rw [if_pos rfl] at hrun
     by_cases h0:0<id
     ·rw [if_pos h0] at hrun
      apply qd []
      repeat' (first|apply And.intro|(intro h;try exact cDd)|(refine Exists.intro (k) ⟨by omega,_,hxm,?_⟩)|exact⟨Tryz.call94⟩|(refine z6 hon ?_)|(refine Exists.intro (k+1,q',ids++[id]) ⟨⟨by omega,hlb,by simp;omega,hrun⟩,by simp only;omega,?_⟩)|exact cSd|apply qb []|refine exr ?_|refine qj ?_)
      all_goals first|(simp;done)|(simp;omega)
     ·rw [if_neg h0] at hrun
      apply qd []
      repeat' (first|apply And.intro|(intro h;try exact cDd)|(refine Exists.intro (k) ⟨by omega,_,hxm,?_⟩)|exact⟨Tryz.call94⟩|(refine z6 hon ?_)|(refine Exists.intro (k+1,q',ids) ⟨⟨by omega,hlb,by first|omega|(simp only;omega),hrun⟩,by simp only;omega,?_⟩)|exact cSd|apply qb []|refine exr ?_|refine qj ?_)
      all_goals first|(simp;done)|(simp;omega)
    |num m=>
     rw [if_neg (by simp)] at hrun
     rw [← hrun]
     have hft:=fun st=>qny k (.num m) st (hcd (by simp))
     apply qd []
     repeat' (first|apply And.intro|(intro h;try exact cDd)|(refine Exists.intro (k) ⟨by omega,_,hxm,?_⟩)|exact⟨Tryz.call94⟩|(refine z6 hon ?_)|exact⟨Tryz.call95⟩|refine cpe hft ?_|exact cSd|apply qb []|refine exr ?_|refine qj ?_)
    |at' a m=>
     rw [if_neg (by simp)] at hrun
     rw [← hrun]
     have hft:=fun st=>qny k (.at' a m) st (hcd (by simp))
     apply qd []
     repeat' (first|apply And.intro|(intro h;try exact cDd)|(refine Exists.intro (k) ⟨by omega,_,hxm,?_⟩)|exact⟨Tryz.call94⟩|(refine z6 hon ?_)|exact⟨Tryz.call95⟩|refine cpe hft ?_|exact cSd|apply qb []|refine exr ?_|refine qj ?_)
   ·have hkn:k=b.length:=by omega
    subst hkn
    rw [List.drop_length,xc] at hrun
    rw [← hrun]
    apply qd []
    repeat' (first|apply And.intro|(intro h;try exact cDd)|exact cSd|apply qb []|refine exr ?_|refine qj ?_)
structure RunV where
 l:qs
 given:List (List Int)
 touched:List Int
def qaq (b:List qq):List Int:=(b.filter fun x=>decide (x.kind≠3)).map fun x=>x.id
def qcn (r:RunV) (b:List qq):RunV:=⟨(doF r.l b).2.1,r.given++[(doF r.l b).2.2],r.touched++qaq b⟩
def wc:List (List qq)→RunV→ErrV×RunV
 | [],r=>(.no,r)
 |b::q,r=>if (doF r.l b).1 = .no then wc q (qcn r b) else (.at' r.given.length 10,r)
def wp (base:qa) (bs:List (List qq)):ErrV×RunV:=if ve base = .no then wc bs ⟨ofF (itsE base),[],[]⟩ else (ve base,⟨ofF [],[],[]⟩)
@[reducible] def q3v (g : List (List Int)) : AV := .sl 1 (g.map qbn) none
@[reducible] def runA (r : RunV) : AV := .pp [jx r.l, q3v r.given, qbn r.touched]
def q1q (r:ErrV×RunV):AV:=match r.1 with
 | .no=>.tu [runA r.2,errA .no]
 |e=>.tu [.v (.pointer none),errA e]
theorem qya (g:List (List Int)):Pure (q3v g):=qbh fun x hx=>by
 obtain⟨f,_,rfl⟩:=List.mem_map.1 hx
 intro y hy
 simp only [AV.cells,List.mem_cons,List.not_mem_nil,or_false] at hy
 rw [hy]
 exact qcc f
theorem q1r (r:ErrV×RunV):Pure (q1q r):=by
 unfold q1q
 split
 ·exact jq (qry fun x hx=>by
   simp only [List.mem_cons,List.not_mem_nil,or_false] at hx
   rcases hx with rfl|rfl|rfl
   ·exact qf6 _
   ·exact qya _
   ·exact qcc _) (j6 _)
 ·exact jq (qu _) (j6 _)
theorem qei {n m:Nat} {l:qs} (h:LB n l) (hm:n≤m) (hs:m<900000):LB m l:=by
 have h1:=h.len;have h2:=h.nx0;have h3:=h.nx1;have h4:=h.mn0;have h5:=h.mn1
 exact⟨hs,by omega,h2,by omega,by omega,by omega⟩
theorem qsw:∀ (b:List qq) (k n:Nat) (l:qs) (ids:List Int),LB n l→n+b.length<900000→LB (n+b.length) (xc k b l ids).2.1
 | [],k,n,l,ids,h,_=>h
 |x::r,k,n,l,ids,h,hs=>by
  simp only [List.length_cons] at hs ⊢
  unfold xc
  split
  ·have:=qsw r (k+1) (n+1) (oneF l x).2.2 (if 0<(oneF l x).1 then ids++[(oneF l x).1] else ids) (qrv h (by omega) x) (by omega)
   rw [show n+(r.length+1)=n+1+r.length by omega]
   exact this
  ·have h1:=h.len;have h2:=h.nx0;have h3:=h.nx1;have h4:=h.mn0;have h5:=h.mn1
   exact⟨by omega,by simp only;omega,h2,by simp only;omega,by simp only;omega,by simp only;omega⟩
theorem q3e {n:Nat} {l:qs} (h:LB n l) (hs:n+40<900000) (b:List qq):LB (n+40) (doF l b).2.1:=by
 unfold doF
 split
 ·rename_i he
  obtain⟨h1,h2,_⟩:=qed he
  exact qei (qsw b 0 n l [] h (by omega)) (by omega) hs
 ·exact qei h (by omega) hs
theorem q4f:∀ (its:List qt) (n:Nat) (l:qs),LB n l→n+its.length<900000→LB (n+its.length) (its.foldl vq l)
 | [],n,l,h,_=>h
 |x::r,n,l,h,hs=>by
  simp only [List.length_cons] at hs ⊢
  rw [List.foldl_cons,show n+(r.length+1)=n+1+r.length by omega]
  refine q4f r (n+1) _ ?_ (by omega)
  have h1:=h.len;have h2:=h.nx0;have h3:=h.nx1;have h4:=h.mn0;have h5:=h.mn1
  unfold vq
  split
  ·exact⟨by omega,by simp;omega,by simp only;omega,by simp only;omega,by simp only;omega,by simp only;omega⟩
  ·exact⟨by omega,by simp;omega,h2,by simp only;omega,by simp only;omega,by simp only;omega⟩
theorem qqj (text:qa):LB 300000 (ofF (itsE text)):=by
 have h:=qv9 text
 have:=q4f (itsE text) 0 ⟨[],1,0⟩ ⟨by omega,by simp,by simp,by simp,by simp,by simp⟩ (by omega)
 exact qei this (by omega) (by omega)
@[reducible] def runH (a : Nat) (r : RunV) : List (Nat × Option SR) := [(0, some (.cells 165 [.a (jx r.l), .tp a, .tp (a + 1)])), (a, some (.tip 1 32 (r.given.map qbn))), (a + 1, some (.tip 1 3 (r.touched.map fun x => Iv x)))]
def BB (b:List qq):Prop:=b.length<1000000∧∀ x∈b,EdB x
theorem zbc (n:Nat) (r:RunV) (b:List qq) (hB:LB n r.l) (hn:n+40<900000) (hg:r.given.length<1000000) (ht:r.touched.length<100000000) (hb:BB b) (hok:(doF r.l b).1 = .no):kr E 134 [.bx 0 0,.a (ku b)] 3 (hpF (runH 1 r)) ⟨.a (.v .nilIface),vb (runH 1 r),runH 3 (qcn r b)++vl (runH 1 r),5⟩:=by
 refine wr [.bx 0 0,.a (ku b)] (runH 1 r) 3 (.a (.v .nilIface)) (runH 3 (qcn r b)) 5 Tryz.func134 rfl rfl rfl rfl fun S F ρ=>?_
 have hdo:=fun st=>q83 n r.l b st hB hn hb.2 hb.1
 unfold qcn
 generalize doF r.l b=d at hdo hok
 obtain⟨e,l',ids⟩:=d
 simp only at hok
 subst hok
 have hgl:(r.given.map qbn).length=r.given.length:=by simp
 have hbl:=hb.1
 apply qd []
 repeat' (first|apply And.intro|(intro h;try exact cDd)|exact⟨Tryz.call46⟩|refine cpe hdo ?_|exact cSd|apply qb []|refine exr ?_|refine qj ?_)
 refine wm (X:=Nat) (fun k=>⟨[(0,.bx 0 0),(45,.a (ku b)),(46,.i b.length),(47,.i k)],[(0,some (.cells 165 [.a (jx l'),.tp 3,.tp 4])),(3,some (.tip 1 32 ((r.given++[ids]).map qbn))),(4,some (.tip 1 3 ((r.touched++qaq (b.take k)).map fun x=>Iv x)))],5⟩)
  (fun k=>k≤b.length) (fun k=>b.length - k) 0 (by omega) ?_ ?_
 ·skip
  repeat' (first|apply And.intro|(intro h;try exact cDd)|exact cSd|apply qb []|refine exr ?_|refine qj ?_)
  all_goals (simp [qaq];done)
 ·rintro k hk
  by_cases hkn:k<b.length
  ·have hx:b[k]? = some b[k]:=List.getElem?_eq_getElem hkn
   have hxm:(b.map xd)[k]? = some (xd b[k]):=by rw [List.getElem?_map,hx];rfl
   have htk:b.take (k+1)=b.take k++[b[k]]:=by rw [List.take_add_one,hx];rfl
   have htl:(qaq (b.take k)).length≤k:=by
    unfold qaq
    rw [List.length_map]
    exact Nat.le_trans (List.length_filter_le _ _) (by simp;omega)
   generalize b[k]=x at hx hxm htk
   by_cases h3:x.kind=3
   ·have e:qaq (b.take (k+1))=qaq (b.take k):=by rw [htk];simp [qaq,h3]
    apply qd []
    repeat' (first|apply And.intro|(intro h;try exact cDd)|(refine Exists.intro (k) ⟨by omega,_,hxm,?_⟩)|(refine Exists.intro (k+1) ⟨by omega,by omega,?_⟩)|exact cSd|apply qb []|refine exr ?_|refine qj ?_)
    all_goals (rw [e];done)
   ·have e:qaq (b.take (k+1))=qaq (b.take k)++[x.id]:=by rw [htk];simp [qaq,h3]
    apply qd []
    repeat' (first|apply And.intro|(intro h;try exact cDd)|(refine Exists.intro (k) ⟨by omega,_,hxm,?_⟩)|(refine Exists.intro (k+1) ⟨by omega,by omega,?_⟩)|exact cSd|apply qb []|refine exr ?_|refine qj ?_)
    all_goals first|(rw [e];simp;done)|(simp;omega)
  ·have hkn:k=b.length:=by omega
   subst hkn
   rw [List.take_length]
   apply qd []
   repeat' (first|apply And.intro|(intro h;try exact cDd)|exact cSd|apply qb []|refine exr ?_|refine qj ?_)
theorem q8f (n:Nat) (r:RunV) (b:List qq) (hB:LB n r.l) (hn:n+40<900000) (hg:r.given.length<1000000) (hb:BB b) (hok:(doF r.l b).1≠.no):kr E 134 [.bx 0 0,.a (ku b)] 3 (hpF (runH 1 r)) ⟨.a (errA (.at' r.given.length 10)),vb (runH 1 r),runH 3 r++vl (runH 1 r),5⟩:=by
 refine wr [.bx 0 0,.a (ku b)] (runH 1 r) 3 (.a (errA (.at' r.given.length 10))) (runH 3 r) 5 Tryz.func134 rfl rfl rfl rfl fun S F ρ=>?_
 have hdo:=fun st=>q83 n r.l b st hB hn hb.2 hb.1
 have hgl:(r.given.map qbn).length=r.given.length:=by simp
 generalize doF r.l b=d at hdo hok
 obtain⟨e,l',ids⟩:=d
 simp only at hok
 cases e with
 |no=>exact absurd rfl hok
 |num m=>
  apply qd []
  repeat' (first|apply And.intro|(intro h;try exact cDd)|exact⟨Tryz.call46⟩|refine cpe hdo ?_|exact cSd|apply qb []|refine exr ?_|refine qj ?_)
  all_goals (rw [hgl];rfl)
 |at' a m=>
  apply qd []
  repeat' (first|apply And.intro|(intro h;try exact cDd)|exact⟨Tryz.call46⟩|refine cpe hdo ?_|exact cSd|apply qb []|refine exr ?_|refine qj ?_)
  all_goals (rw [hgl];rfl)
theorem zbb (base:qa) (bs:List (List qq)) (st:List AObj) (hl:base.length<1000000) (hn:bs.length≤14000) (hb:∀ b∈bs,BB b∧b.length≤5000):ql E 76 [Sv base,qd9 bs] st fun r st'=>r=q1q (wp base bs)∧st'=st:=by
 refine qjy [.s base,.a (qd9 bs)] (q1r _) Tryz.func76 rfl rfl (fun _=>rfl) rfl fun S0=>?_
 have hof:=fun st=>q7i base st hl
 have hlb:=qqj base
 unfold wp
 generalize itsE base=its at hof hlb
 cases he:ve base with
 |num m=>
  rw [he] at hof
  rw [if_neg (by simp)]
  apply qd [22]
  repeat' (first|apply And.intro|(intro h;try exact cDd)|exact⟨Tryz.call35⟩|refine cpe hof ?_|exact cSd|apply qb [22]|refine exr ?_|refine qj ?_)
 |at' a m=>
  rw [he] at hof
  rw [if_neg (by simp)]
  apply qd [22]
  repeat' (first|apply And.intro|(intro h;try exact cDd)|exact⟨Tryz.call35⟩|refine cpe hof ?_|exact cSd|apply qb [22]|refine exr ?_|refine qj ?_)
 |no=>
  rw [he] at hof
  rw [if_pos rfl]
  apply qd [22]
  repeat' (first|apply And.intro|(intro h;try exact cDd)|exact⟨Tryz.call35⟩|refine cpe hof ?_|exact cSd|apply qb [22]|refine exr ?_|refine qj ?_)
  refine wm (X:=Nat×RunV) (fun (k,r)=>⟨[(8,.bx 0 0),(23,.a (qd9 bs)),(24,.i bs.length),(25,.i k)],[(0,some (.cells 165 [.a (jx r.l),.tp 1,.tp 2])),(1,some (.tip 1 32 (r.given.map qbn))),(2,some (.tip 1 3 (r.touched.map fun x=>Iv x)))],3⟩)
   (fun (k,r)=>k≤bs.length∧LB (300000+40 * k) r.l∧r.given.length=k∧r.touched.length≤5000 * k∧wc (bs.drop k) r=wc bs ⟨ofF its,[],[]⟩) (fun (k,r)=>bs.length - k) (0,⟨ofF its,[],[]⟩) ⟨by omega,hlb,rfl,by simp,rfl⟩ ?_ ?_
  ·skip
   repeat' (first|apply And.intro|(intro h;try exact cDd)|exact cSd|apply qb []|refine exr ?_|refine qj ?_)
   all_goals (simp;done)
  ·rintro⟨k,r⟩ ⟨hk,hq,hgl,htl,hrun⟩
   by_cases hkn:k<bs.length
   ·have hx:bs[k]? = some bs[k]:=List.getElem?_eq_getElem hkn
    have hxm:(bs.map ku)[k]? = some (ku bs[k]):=by rw [List.getElem?_map,hx];rfl
    obtain⟨hbb,hb5⟩:=hb bs[k] (List.getElem_mem hkn)
    rw [List.drop_eq_getElem_cons hkn,wc] at hrun
    generalize bs[k]=b at hx hxm hbb hb5 hrun
    have hlb2:=q3e hq (by omega) b
    by_cases hok:(doF r.l b).1 = .no
    ·rw [if_pos hok] at hrun
     have htk:=zbc (300000+40 * k) r b hq (by omega) (by omega) (by omega) hbb hok
     have hgl2:(qcn r b).given.length=k+1:=by simp [qcn,hgl]
     have htl2:(qcn r b).touched.length≤5000 * (k+1):=by
      have:(qaq b).length≤b.length:=by
       unfold qaq
       rw [List.length_map]
       exact List.length_filter_le _ _
      simp only [qcn,List.length_append]
      omega
     have hlb3:LB (300000+40 * (k+1)) (qcn r b).l:=qei hlb2 (by omega) (by omega)
     generalize qcn r b=r2 at htk hrun hgl2 htl2 hlb3
     apply qd []
     repeat' (first|apply And.intro|(intro h;try exact cDd)|(refine Exists.intro (k) ⟨by omega,_,hxm,?_⟩)|exact⟨Tryz.call134⟩|(refine z6 htk ?_)|(refine Exists.intro (k+1,r2) ⟨⟨by omega,hlb3,hgl2,htl2,hrun⟩,by simp only;omega,?_⟩)|exact cSd|apply qb []|refine exr ?_|refine qj ?_)
    ·rw [if_neg hok] at hrun
     rw [← hrun]
     have htk:=q8f (300000+40 * k) r b hq (by omega) (by omega) hbb hok
     apply qd []
     repeat' (first|apply And.intro|(intro h;try exact cDd)|(refine Exists.intro (k) ⟨by omega,_,hxm,?_⟩)|exact⟨Tryz.call134⟩|(refine z6 htk ?_)|exact cSd|apply qb []|refine exr ?_|refine qj ?_)
   ·have hkn:k=bs.length:=by omega
    subst hkn
    rw [List.drop_length,wc] at hrun
    rw [← hrun]
    apply qd []
    repeat' (first|apply And.intro|(intro h;try exact cDd)|exact cSd|apply qb []|refine exr ?_|refine qj ?_)
end Go.Proofs.YtneejjefekdgjaaGreatDoor
