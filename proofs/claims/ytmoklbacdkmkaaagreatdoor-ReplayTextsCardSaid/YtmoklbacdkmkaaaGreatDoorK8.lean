/- Contracts and plain facts that the closing text leans on (part 8). No condition of their own beyond those that each states. -/
import Derived.Test.YtmoklbacdkmkaaaGreatDoorK7
import Derived.Lib.SliceRun
set_option maxRecDepth 100000
set_option linter.unusedVariables false
set_option linter.unusedSimpArgs false
namespace Go.Pl
open Go Go.Proofs Go.Proofs.YtmoklbacdkmkaaaGreatDoor
structure ve where
 gen:Int
 base:qa
 batches:List (List qs)
 ends : List Int
 tail:qa
def qam:ve:=⟨0,[],[],[],[]⟩
def jr (text:qa):ErrV:=if 60000<text.length then .num 1 else match (jt text).1 with
 |none=>.no
 |some (a,n)=>.at' a n
def recsF:Nat→qa→Int→List (List qs)→List Int→Bool×List (List qs)×List Int×qa
 | 0,l,_,bs,es=>(false,bs,es,l)
 |f+1,l,a,bs,es=>
  if (ze l).1=2 then (false,bs,es,l)
  else if (ze l).1=1 then match decF (ze l).2.1 with
   |some b=>recsF f (l.drop (ze l).2.2.toNat) (a+(ze l).2.2) (bs++[b]) (es++[a+(ze l).2.2])
   |none=>(true,bs,es,l)
  else (true,bs,es,l)
def qc9 (text:qa):qa:=(wb text).2
def atH (text:qa):Nat:=jc (qc9 text).length (qc9 text)
def qhs (text:qa):qa:=(qc9 text).take (atH text)
def qd0 (text:qa):Bool×List (List qs)×List Int×qa:=recsF (text.length+1) ((qc9 text).drop (atH text)) (((text.length - (qc9 text).length+atH text:Nat)):Int) [] []
def vf (text:qa):ErrV×ve:=
 if 120000<text.length then (.num 1,qam)
 else match jr (qhs text) with
  | .no=>if (qd0 text).1=true then (.at' (qd0 text).2.1.length 10,qam) else (.no,⟨(wb text).1,qhs text,(qd0 text).2.1,(qd0 text).2.2.1,(qd0 text).2.2.2⟩)
  |e=>(e,qam)
structure qho (b:List qs):Prop where
 ok:eErr b = .no
 B:∀ x∈b,EdB x
 len:(encF b).length≤50000
theorem qho.good {b:List qs} (h:qho b):yi (encF b):=q78 h.ok h.B h.len
theorem zbr {t:qa} {b:List qs} (h:decF t=some b):qho b∧encF b=t:=by
 obtain⟨h1,h2,h3⟩:=qy4 h
 exact⟨⟨h1,q7y h,by rw [h2];exact h3⟩,h2⟩
def recE (b:List qs):qa:=recF (encF b)
def x3 (bs:List (List qs)):qa:=bs.flatMap recE
def qbh (a:Int):List (List qs)→List Int
 | []=>[]
 |b::r=>(a+(recE b).length)::qbh (a+(recE b).length) r
theorem qd1 (b:List qs) (r:List (List qs)):x3 (b::r)=recE b++x3 r:=rfl
theorem q6h (r:List (List qs)) (b:List qs):x3 (r++[b])=x3 r++recE b:=by simp [x3]
theorem qsi:∀ (r:List (List qs)) (a:Int) (b:List qs),qbh a (r++[b])=qbh a r++[a+(x3 r).length+(recE b).length]
 | [],a,b=>by simp [qbh,x3]
 |x::r,a,b=>by
  rw [List.cons_append,qbh,qbh,qsi r,qd1]
  simp
  omega
theorem qnw:∀ (r:List (List qs)) (a:Int),(qbh a r).length=r.length
 | [],_=>rfl
 |x::r,a=>by rw [qbh];simp [qnw r]
theorem qsh:∀ (r:List (List qs)) (a:Int),r≠[]→(qbh a r).getLast? = some (a+(x3 r).length)
 | [],_,h=>absurd rfl h
 | [x],a,_=>by simp [qbh,x3]
 |x::y::r,a,_=>by
  have:=qsh (y::r) (a+(recE x).length) (by simp)
  rw [qbh,List.getLast?_cons]
  rw [this,qd1 x]
  simp
  omega
theorem q0t (b:List qs):0<(recE b).length:=by
 unfold recE
 rw [qo9]
 simp [recL,v8,q8]
theorem q0v:∀ (f:Nat) (l:qa) (a:Int) (xs xs':List (List qs)) (es es':List Int) (t:qa),l.length<f→recsF f l a xs es=(false,xs',es',t) →
  ∃ bs,l=x3 bs++t∧xs'=xs++bs∧es'=es++qbh a bs∧(∀ b∈bs,qho b)∧(ze t).1=2
 | 0,l,a,xs,xs',es,es',t,hl,h=>absurd hl (by omega)
 |f+1,l,a,xs,xs',es,es',t,hl,h=>by
  rw [recsF] at h
  split at h
  ·rename_i h2
   simp only [Prod.mk.injEq,true_and] at h
   obtain⟨rfl,rfl,rfl⟩:=h
   exact⟨[],by simp [x3],by simp,by simp [qbh],by simp,h2⟩
  ·split at h
   ·rename_i h1
    split at h
    ·rename_i b hd
     obtain⟨hg,he⟩:=zbr hd
     have hrd:ze l=(1,(ze l).2.1,(ze l).2.2):=by rw [← h1]
     obtain⟨_,m,hm,hn⟩:=qth hrd
     rw [← he] at hm hn
     have hm':l=recE b++m:=hm
     have hn':(ze l).2.2=((recE b).length:Int):=hn
     have hpos:=q0t b
     have hlen:l.length=(recE b).length+m.length:=by rw [hm'];simp
     have hdr:l.drop (recE b).length=m:=by
      conv=>lhs;rw [hm']
      rw [List.drop_left]
     rw [hn',Int.toNat_natCast,hdr] at h
     obtain⟨bs,e1,e2,e3,e4,e5⟩:=q0v f m _ _ _ _ _ _ (by omega) h
     refine⟨b::bs,?_,by rw [e2];simp,by rw [e3];simp [qbh],?_,e5⟩
     ·rw [qd1,List.append_assoc,← e1]
      exact hm'
     ·intro x hx
      rcases List.mem_cons.1 hx with rfl|hx
      ·exact hg
      ·exact e4 x hx
    ·simp at h
   ·simp at h
structure qba (text:qa) (b:ve):Prop where
 txt:text=wz b.gen++(b.base++(x3 b.batches++b.tail))
 gen:wb text=(b.gen,b.base++(x3 b.batches++b.tail))
 parse:jr b.base = .no
 good:∀ x∈b.batches,qho x
 tail:(ze b.tail).1=2
 ends : b.ends = qbh ((wz b.gen).length + b.base.length) b.batches
 len:text.length≤120000
def BegP (x:qa):Prop:=x=[]∨begF (upto 10 x)=true
theorem q7o {t:qa} (h:(ze t).1=2):BegP t:=by
 by_cases h0:t=[]
 ·exact .inl h0
 ·obtain⟨n,fig,body,R,hp,_⟩:=ze9 h
  obtain⟨_,_,_,_,_,hx⟩:=R
  exact .inr (q7r hx hp h0)
theorem q7n {bs:List (List qs)} {t:qa} (hg:∀ b∈bs,qho b) (h:(ze t).1=2):BegP (x3 bs++t):=by
 cases bs with
 |nil=>exact q7o h
 |cons b r=>
  refine .inr ?_
  rw [qd1,List.append_assoc]
  exact zd5 _ (hg b (by simp)).good
theorem q7m {x:qa} (h:BegP x):x=[]∨x.head? = some 37:=by
 rcases h with h|h
 ·exact .inl h
 ·simp only [begF,decide_eq_true_eq] at h
  cases x with
  |nil=>exact .inl rfl
  |cons c r=>
   refine .inr ?_
   have h1:=h.1
   unfold upto at h1
   by_cases hc:c=10
   ·subst hc;simp at h1
   ·simpa [hc] using h1
theorem q0p {l:qa} (h:jr l = .no):(∀ p∈zq l,begF p.1=false∧p.2=true)∧l.length≤60000:=by
 unfold jr at h
 split at h
 ·simp at h
 ·split at h
  ·rename_i hp
   exact⟨q2p hp,by omega⟩
  ·simp at h
theorem qql {text:qa} {b:ve} (h:vf text=(.no,b)):qba text b:=by
 unfold vf at h
 split at h
 ·simp at h
 ·rename_i hlen
  split at h
  ·rename_i hp
   split at h
   ·simp at h
   ·rename_i hc
    simp only [Prod.mk.injEq,true_and] at h
    subst h
    have hs:=qg3 text
    have hle:atH text≤(qc9 text).length:=(qnn _ _ _ (Nat.le_refl _) (Nat.le_refl _)).2
    have hrl:(qc9 text).length≤text.length:=by
     conv=>rhs;rw [hs.1]
     unfold qc9
     simp
    have hhl:text.length - (qc9 text).length=(wz (wb text).1).length:=by
     have:text.length=(wz (wb text).1).length+(qc9 text).length:=by
      conv=>lhs;rw [hs.1]
      unfold qc9
      simp
     omega
    have hq:qd0 text=(false,(qd0 text).2.1,(qd0 text).2.2.1,(qd0 text).2.2.2):=by
     have:(qd0 text).1=false:=by simpa using hc
     rw [← this]
    obtain⟨bs,e1,e2,e3,e4,e5⟩:=q0v _ _ _ _ _ _ _ _ (by simp;omega) (show recsF (text.length+1) _ _ _ _=_ from hq)
    simp only [List.nil_append] at e2 e3
    have hbl:(qhs text).length=atH text:=by unfold qhs;simp;omega
    have hrest:qc9 text=qhs text++(x3 bs++(qd0 text).2.2.2):=by
     rw [← e1]
     unfold qhs
     rw [List.take_append_drop]
    refine⟨?_,?_,hp,?_,e5,?_,by omega⟩
    ·simp only
     rw [e2,← hrest]
     exact hs.1
    ·simp only
     rw [e2,← hrest]
     rfl
    ·simp only
     rw [e2]
     exact e4
    ·simp only
     rw [e2,e3,hbl,hhl]
     simp
  ·rename_i hp
   simp only [Prod.mk.injEq] at h
   exact absurd h.1 hp
def yx (b:ve):qa:=wz b.gen++(b.base++x3 b.batches)
def qbw (b:ve):Int:=match b.ends.getLast? with
 |some e=>e
 |none=>((wz b.gen).length+b.base.length:Nat)
theorem qba.split {text:qa} {b:ve} (h:qba text b):text=yx b++b.tail:=by
 have:=h.txt
 unfold yx
 simpa using this
theorem qba.whole {text:qa} {b:ve} (h:qba text b):qbw b=((yx b).length:Int):=by
 unfold qbw
 rw [h.ends]
 by_cases h0:b.batches=[]
 ·rw [h0]
  simp [qbh,yx,h0,x3]
 ·rw [qsh _ _ h0]
  simp [yx]
  omega
theorem qba.take {text:qa} {b:ve} (h:qba text b):text.take (qbw b).toNat=yx b:=by
 rw [h.whole,Int.toNat_natCast]
 conv=>lhs;rw [h.split]
 rw [List.take_left]
theorem q5u {l:qa} (h:l≠[]) (hp:∀ p∈zq l,p.2=true):l.getLast? = some 10:=by
 have:∀ (k:Nat) (l:qa),l.length≤k→l≠[]→(∀ p∈zq l,p.2=true)→l.getLast? = some 10:=by
  intro k
  induction k with
  |zero=>intro l hl h0;exact absurd (List.length_eq_zero_iff.1 (by omega)) h0
  |succ k ih=>
   intro l hl h0 hp
   rw [wp h0] at hp
   have h10:10∈l:=by simpa using hp _ (List.mem_cons_self ..)
   have e:=v7 h10
   by_cases hq:past 10 l=[]
   ·rw [hq] at e
    rw [e]
    simp
   ·have:=ih (past 10 l) (by have:=w9 (c:=10) h0;omega) hq fun p hp'=>hp p (by simp [hp'])
    rw [e]
    rw [List.getLast?_append,List.getLast?_cons,this]
    simp
 exact this _ l (Nat.le_refl _) h hp
theorem zeq {l x:qa} {n:Int} (h:∀ p∈zq l,p.2=true) (hx:x=[]∨x.head? = some 37) (hp:yf n <+: l++x):yf n <+: l:=by
 rcases qfd hp with h1 | ⟨r,h1,hr⟩
 ·exact h1
 ·by_cases hr0:r=[]
  ·rw [h1,hr0,List.append_nil]
   exact List.prefix_refl _
  ·exfalso
   obtain⟨c,q,rfl⟩:=List.exists_cons_of_ne_nil hr0
   have hc:c=37:=by
    obtain⟨t,ht⟩:=hr
    rcases hx with rfl|hx
    ·simp at ht
    ·rw [← ht] at hx
     simpa using hx
   subst hc
   by_cases hl:l=[]
   ·rw [hl] at h1
    simp [yf,genL] at h1
   ·have hlast:=q5u hl h
    obtain⟨q0,hq0⟩:∃ q0,l=q0++[10]:=by
     have:=qpv hlast
     exact⟨_,this.symm⟩
    have e:genL++Lib.itoa n++10::[10]=q0++10::(37::q):=by
     have:=h1
     unfold yf at this
     rw [hq0] at this
     simpa using this
    have hu10:10∉genL++Lib.itoa n:=by
     intro h
     rcases List.mem_append.1 h with h|h
     ·revert h;decide
     ·exact ql8 n h
    have hA:=vu (c:=10) [10] hu10
    have hB:=xk (c:=10) [10] hu10
    rw [e] at hA hB
    by_cases hq10:10∈q0
    ·have e2:=v7 hq10
     have e3:q0++10::(37::q)=upto 10 q0++10::(past 10 q0++10::(37::q)):=by
      conv=>lhs;rw [e2]
      simp
     rw [e3,xk _ (y7 10 q0)] at hB
     have:=congrArg List.length hB
     simp at this
     omega
    ·rw [xk _ hq10] at hB
     simp at hB
theorem q6x {l x y:qa} (h:∀ p∈zq l,p.2=true) (hx:wb (l++x)=(0,l++x)) (hy:y=[]∨y.head? = some 37):wb (l++y)=(0,l++y):=by
 refine qou fun n r hg e=>?_
 obtain⟨t,ht⟩:=zeq (n:=n) h hy ⟨r,e.symm⟩
 have:wb (l++x)=(n,t++x):=by rw [← ht,List.append_assoc,qmv hg]
 rw [hx] at this
 have h0:(0:Int)=n:=(Prod.mk.inj this).1
 have:=hg.1
 omega
theorem qba.gen0 {text:qa} {b:ve} (h:qba text b):b.gen=0∨xb b.gen:=by
 have:=(qg3 text).2
 rw [h.gen] at this
 exact this
theorem qba.other {text:qa} {b:ve} (h:qba text b) {bs:List (List qs)} {t:qa} (hg:∀ x∈bs,qho x) (ht:(ze t).1=2) (hlen:(wz b.gen++(b.base++(x3 bs++t))).length≤120000) :
  qba (wz b.gen++(b.base++(x3 bs++t))) ⟨b.gen,b.base,bs,qbh ((wz b.gen).length+b.base.length) bs,t⟩:=by
 refine⟨rfl,?_,h.parse,hg,ht,rfl,hlen⟩
 rcases h.gen0 with h0|h0
 ·have hgen:=h.gen
  have htext:=h.txt
  have e:wz b.gen=[]:=by unfold wz;rw [if_neg (by rw [h0];decide)]
  rw [e,List.nil_append] at htext ⊢
  rw [h0,htext] at hgen
  simp only
  rw [h0]
  exact q6x (fun p hp=>((q0p h.parse).1 p hp).2) hgen (q7m (q7n hg ht))
 ·have e:wz b.gen=yf b.gen:=by unfold wz;rw [if_pos h0]
  simp only
  rw [e,qmv h0]
theorem zcq:ze []=(2,[],0):=by
 unfold ze xj
 rw [if_neg (by simp),if_pos]
 rw [if_neg (by decide)]
 decide
theorem qba.more {text:qa} {b:ve} (h:qba text b) {x:List qs} (hx:qho x) (hl:(yx b++recE x).length≤120000):qba (yx b++recE x) { b with batches:=b.batches++[x],ends:=b.ends++[qbw b+(recE x).length],tail:=[] }:=by
 have e:wz b.gen++(b.base++(x3 (b.batches++[x])++[]))=yx b++recE x:=by simp [yx,q6h]
 have:=h.other (bs:=b.batches++[x]) (t:=[]) (fun y hy=>by
  rcases List.mem_append.1 hy with hy|hy
  ·exact h.good y hy
  ·obtain rfl:=List.mem_singleton.1 hy
   exact hx) (by rw [zcq]) (by rw [e];exact hl)
 rw [e,qsi,← h.ends] at this
 have hw:((wz b.gen).length+b.base.length+(x3 b.batches).length+(recE x).length:Int)=qbw b+(recE x).length:=by
  rw [h.whole]
  simp [yx]
  omega
 rw [hw] at this
 exact this
def appF (text:qa) (x:List qs):ErrV×qa:=
 match (vf text).1 with
 | .no=>match eErr x with
  | .no=>if 50000<(encF x).length then (.num 11,[]) else if 120000<qbw (vf text).2+(recE x).length then (.num 11,[]) else (.no,text.take (qbw (vf text).2).toNat++recE x)
  |e=>(e,[])
 |e=>(e,[])
end Go.Pl
namespace Go.Proofs.YtmoklbacdkmkaaaGreatDoor
open Go Go.Av Go.RowKit Go.Proofs Go.Pl
theorem ql3 (n:Int) (st:List AObj) (h:xb n):qo E 99 [Iv n] st fun r st'=>r = .tu [Sv (yf n),.v .nilIface]∧st'=st:=by
 have h1:=h.1
 have h2:=h.2
 have hl:=qj1 (v:=n) (by omega) (by omega)
 have hit:=fun st=>qn5 n st (by omega) (by omega)
 refine zm [.i n] (kf (qr _) (qr _)) Tryz.func99 rfl rfl (fun _=>rfl) rfl fun S0=>?_
 apply qd []
 repeat' (first|apply And.intro|(intro h;try exact cDd)|exact⟨Tryz.call155⟩|refine cpe hit ?_|exact cSd|apply qb []|refine exr ?_|refine qh ?_)
 all_goals first|(simp;omega)|(simp [yf,genL];done)
theorem qzr (n:Int) (st:List AObj) (h:¬ xb n):qo E 99 [Iv n] st fun r st'=>r = .tu [Sv [],.ifc 76 (Iv 1)]∧st'=st:=by
 refine zm [.i n] (kf (qr _) (qcs (qr _))) Tryz.func99 rfl rfl (fun _=>rfl) rfl fun S0=>?_
 unfold xb at h
 apply qd []
 repeat' (first|apply And.intro|(intro h;try exact cDd)|exact cSd|apply qb []|refine exr ?_|refine qh ?_)
theorem zgl (n:Int) (st:List AObj):qo E 77 [Iv n] st fun r st'=>r=Iv ((wz n).length:Nat)∧st'=st:=by
 refine zm [.i n] (qr _) Tryz.func77 rfl rfl (fun _=>rfl) rfl fun S0=>?_
 by_cases hg:xb n
 ·have e:wz n=yf n:=by unfold wz;rw [if_pos hg]
  have hln:=fun st=>ql3 n st hg
  rw [e]
  apply qd []
  repeat' (first|apply And.intro|(intro h;try exact cDd)|exact⟨Tryz.call99⟩|refine cpe hln ?_|exact cSd|apply qb []|refine exr ?_|refine qh ?_)
 ·have e:wz n=[]:=by unfold wz;rw [if_neg hg]
  have hln:=fun st=>qzr n st hg
  rw [e]
  apply qd []
  repeat' (first|apply And.intro|(intro h;try exact cDd)|exact⟨Tryz.call99⟩|refine cpe hln ?_|exact cSd|apply qb []|refine exr ?_|refine qh ?_)
theorem zaf (l:qa) (st:List AObj):qo E 98 [Sv (genL++l),Sv [35,37,103,101,110,32]] st fun r st'=>r=Sv l∧st'=st:=by
 have:=qje (genL++l) [35,37,103,101,110,32] st
 rw [qcw (show [35,37,103,101,110,32] <+: genL++l from List.prefix_append genL l)] at this
 have e:(genL++l).drop ([35,37,103,101,110,32]:qa).length=l:=by rw [show ([35,37,103,101,110,32]:qa).length=genL.length by rfl,List.drop_left]
 rw [e] at this
 exact this
set_option maxHeartbeats 2000000 in
theorem zer (text:qa) (st:List AObj) (hl:text.length<1000000):qo E 56 [Sv text] st fun r st'=>r = .tu [Iv (wb text).1,Sv (wb text).2]∧st'=st:=by
 refine qv (kf (qr _) (qr _)) (qp Tryz.func56 rfl (Nat.le_of_ble_eq_true rfl) ?_)
 rcases qqe text with⟨n,r,hg,he,ht⟩ | ⟨hno,ht⟩
 ·rw [ht]
  have hn10:10∉genL++Lib.itoa n:=fun h=>by
   rcases List.mem_append.1 h with h|h
   ·revert h;decide
   ·exact ql8 n h
  have hcut:∀ st,qo E 96 [Sv text,Sv [10,10]] st fun x st'=>x = .tu [Sv (genL++Lib.itoa n),Sv r,Bv true]∧st'=st:=fun st=>by
   have:=qsa text [10,10] st (by omega)
   rw [he,ql9,← List.append_assoc,zge r hn10] at this
   rw [he,ql9,← List.append_assoc]
   exact this
  have hb:=qj1 (v:=n) (by have:=hg.1;omega) (by have:=hg.2;omega)
  have hgl:genL.length=6:=rfl
  have hat:=qlq (v:=n) (by have:=hg.1;omega) (by have:=hg.2;omega)
  repeat' (first|apply qm|apply qe|apply qg|apply qj|apply qf|(apply zf;exact rfl;exact rfl)|(apply qi;exact Tryz.call96;exact hcut _)|(apply qi;exact Tryz.call98;exact zaf _ _))
  refine qe2 Tryz.call97 ((qnk (Lib.itoa n) _ (by omega)).mono ?_)
  rintro _ _ ⟨rfl,n',x,rfl,hx⟩
  rcases x with _ | ⟨t',y⟩
  ·simp only at hx
   rw [hat] at hx
   have e:n=n':=by simpa using hx
   subst e
   show AOps _ _ _ _ _ _ _
   have hs:yf n=(genL++Lib.itoa n)++[10,10]:=rfl
   have hs2:¬ yf n≠(genL++Lib.itoa n)++[10,10]:=fun h=>h hs
   repeat' (first|apply qm|apply qe|apply qg|apply qj|apply qf|(apply zf;exact rfl;exact rfl)|(apply jh;(iterate 3 exact rfl))|(apply z6;exact rfl)|(apply qw;(iterate 4 exact rfl))|(apply qaq;exact cRa)|(apply qgf;exact cRa)|(apply qk;exact rfl;apply qfz;exact cRa)|(apply qk;exact rfl;apply pk_f;exact cRa)|(apply qc;exact rfl;apply ku;exact cAo)|(apply z7;exact rfl;exact rfl;exact cOs)|(apply vl;exact rfl;exact rfl)|apply qu|apply qt|(apply qi;exact Tryz.call99;exact ql3 _ _ hg))
   exact qn rfl (kc rfl) ⟨rfl,_,rfl⟩
  ·exact absurd hat (hx n)
 ·rw [ht]
  have hfst:=qsb text [10,10]
  have hct:=fun h=>zbb (l:=text) (m:=[10,10]) h
  have htr:=qes (Lib.cut text [10,10]).1 [35,37,103,101,110,32]
  have hcc:=fun st=>qsa text [10,10] st (by omega)
  generalize Lib.cut text [10,10]=c at hfst hct htr hcc
  obtain⟨a,b,d⟩:=c
  simp only at hfst hct htr hcc
  repeat' (first|apply qm|apply qe|apply qg|apply qj|apply qf|(apply zf;exact rfl;exact rfl)|(apply qi;exact Tryz.call96;exact hcc _)|(apply qi;exact Tryz.call98;exact qje _ _ _))
  refine qe2 Tryz.call97 ((qnk (Lib.trimPrefix a [35,37,103,101,110,32]) _ (by omega)).mono ?_)
  rintro _ _ ⟨rfl,n,x,rfl,hx⟩
  show AOps _ _ _ _ _ _ _
  have hbad:¬ (d=true∧xb n∧yf n=a++[10,10]):=fun ⟨h1,h2,h3⟩=>by
   refine hno n b h2 ?_
   rw [h3]
   exact hct h1
  by_cases hg:xb n
  ·have hll:=qwi hg
   cases d with
   |false=>
    rcases x with _ | ⟨t',y⟩
    all_goals
     repeat' (first|apply qm|apply qe|apply qg|apply qj|apply qf|(apply zf;exact rfl;exact rfl)|(apply z6;exact rfl)|(apply qw;(iterate 4 exact rfl))|(apply qbl;exact cRa)|(apply qar;exact cRa)|(apply qk;exact rfl;apply qh5;exact cRa)|(apply qk;exact rfl;apply pk_t;exact cRa)|(apply qc;exact rfl;apply cd_t;exact cRa)|apply qt|(apply qi;exact Tryz.call99;exact ql3 _ _ hg))
     exact qn rfl (kc rfl) ⟨rfl,_,rfl⟩
   |true=>
    have hne:yf n≠a++[10,10]:=fun h=>hbad ⟨rfl,hg,h⟩
    rcases x with _ | ⟨t',y⟩
    all_goals
     repeat' (first|apply qm|apply qe|apply qg|apply qj|apply qf|(apply zf;exact rfl;exact rfl)|(apply jh;(iterate 3 exact rfl))|(apply z6;exact rfl)|(apply qw;(iterate 4 exact rfl))|(apply qaq;exact cRa)|(apply qgf;exact cRa)|(apply qar;exact cRa)|(apply qk;exact rfl;apply qfz;exact cRa)|(apply qk;exact rfl;apply pk_t;exact cRa)|(apply qk;exact rfl;apply pk_f;exact cRa)|(apply qc;exact rfl;apply kz;exact cAo)|(apply qc;exact rfl;apply cd_t;exact cRa)|(apply z7;exact rfl;exact rfl;exact cOs)|(apply wn;exact rfl;exact rfl)|(apply vl;exact rfl;exact rfl)|apply qt|(apply qi;exact Tryz.call99;exact ql3 _ _ hg))
     exact qn rfl (kc rfl) ⟨rfl,_,rfl⟩
  ·cases d
   all_goals
    rcases x with _ | ⟨t',y⟩
    all_goals
     repeat' (first|apply qm|apply qe|apply qg|apply qj|apply qf|(apply zf;exact rfl;exact rfl)|(apply z6;exact rfl)|(apply qw;(iterate 4 exact rfl))|(apply qaq;exact cRa)|(apply qbl;exact cRa)|(apply qgf;exact cRa)|(apply qar;exact cRa)|(apply qk;exact rfl;apply qh5;exact cRa)|(apply qk;exact rfl;apply qfz;exact cRa)|(apply qk;exact rfl;apply pk_t;exact cRa)|(apply qk;exact rfl;apply pk_f;exact cRa)|(apply qc;exact rfl;apply cd_t;exact cRa)|(apply wn;exact rfl;exact rfl)|(apply vl;exact rfl;exact rfl)|apply qt|(apply qi;exact Tryz.call99;exact qzr _ _ hg))
     exact qn rfl (kc rfl) ⟨rfl,_,rfl⟩
theorem qgz (n:Int) (st:List AObj):qo E 107 [Iv n] st fun r st'=>r=Bv (decide (xb n))∧st'=st:=by
 refine qv (qr _) (qp Tryz.func107 rfl (Nat.le_of_ble_eq_true rfl) ?_)
 by_cases h1:1≤n
 ·by_cases h2:n≤2147483648
  all_goals
   repeat' (first|apply qm|apply qe|apply qg|apply qj|apply qf|(apply qq;(iterate 3 exact rfl))|(apply qw;(iterate 4 exact rfl))|(apply wu;exact cAo)|(apply qk;exact rfl;apply wh;exact cAo)|apply qt)
   exact qn rfl (q6 rfl) ⟨congrArg Bv (by simp [xb,h1,h2]),_,rfl⟩
 ·skip
  repeat' (first|apply qm|apply qe|apply qg|apply qj|apply qf|(apply qq;(iterate 3 exact rfl))|(apply qw;(iterate 4 exact rfl))|(apply xf;exact cAo)|(apply qk;exact rfl;apply wa;exact cAo)|apply qt)
  exact qn rfl (q6 rfl) ⟨congrArg Bv (by simp [xb,h1]),_,rfl⟩
theorem zfy {l:qa} {k:Nat} (h:10∉l.take k) (hk:l.length≤k∨l.getD k 0=10) (hk2:k<l.length∨l.length≤k):upto 10 l=l.take k:=by
 rcases hk2 with hlt|hge
 ·have e:l.getD k 0=10:=hk.resolve_left (by omega)
  have e2:l=l.take k++10::l.drop (k+1):=by
   conv=>lhs;rw [← List.take_append_drop k l,List.drop_eq_getElem_cons hlt]
   congr 2
   simpa [List.getD,hlt] using e
  conv=>lhs;rw [e2]
  exact vu _ h
 ·rw [List.take_of_length_le hge] at h ⊢
  exact ww h
set_option maxHeartbeats 4000000 in
theorem q24 (text:qa) (st:List AObj) (hl:text.length<1000000):qo E 60 [Sv text] st fun r st'=>r = .tu [Iv (wb text).1,Sv (wb text).2]∧st'=st:=by
 refine zm [.s text] (kf (qr _) (qr _)) Tryz.func60 rfl rfl (fun _=>rfl) rfl fun S0=>?_
 by_cases h9:text.length<9
 ·have ht:wb text=(0,text):=qou fun n r hg e=>by
   have:=q3u n
   rw [e] at h9
   simp [yf,genL] at h9
   omega
  rw [ht]
  apply qd []
  repeat' (first|apply And.intro|(intro h;try exact cDd)|exact cSd|apply qb []|refine exr ?_|refine qh ?_)
 ·have hp6:text.take 6=[35,37,103,101,110,32]↔genL <+: text:=by
   rw [List.prefix_iff_eq_take]
   exact eq_comm
  by_cases hp:genL <+: text
  ·have hp':=hp6.2 hp
   have hd:(text.drop 6).length=text.length - 6:=by simp
   apply qd []
   repeat' (first|apply And.intro|(intro h;try exact cDd)|exact absurd hp' (by assumption)|exact cSd|apply qb []|refine exr ?_|refine qh ?_)
   refine ji (X:=Nat) (fun k=>⟨[(0,.s text),(4,.i k)],[],0⟩) (fun k=>6≤k∧k≤text.length∧10∉(text.drop 6).take (k - 6)) (fun k=>text.length - k) 6 ⟨by omega,by omega,by simp⟩ ?_ ?_
   ·skip
    repeat' (first|apply And.intro|(intro h;try exact cDd)|exact cSd|apply qb []|refine exr ?_|refine qh ?_)
   rintro k ⟨hk6,hk,hno⟩
   have hgd:(text.drop 6).getD (k - 6) 0=text.getD k 0:=by
    simp only [List.getD_eq_getElem?_getD,List.getElem?_drop]
    rw [show 6+(k - 6)=k by omega]
   by_cases hgo:k<text.length∧text.getD k 0≠10
   ·obtain⟨hk1,hk2⟩:=hgo
    have hk3:((text.getD k 0).toNat:Int)≠10:=fun e=>hk2 ((qa4 _).1 e)
    have hno2:10∉(text.drop 6).take (k+1 - 6):=by
     rw [show k+1 - 6=(k - 6)+1 by omega]
     refine qcr (by omega) hno ?_
     rw [hgd]
     exact hk2
    apply qd []
    repeat' (first|apply And.intro|(intro h;try exact cDd)|(refine Exists.intro (k+1) ⟨⟨by omega,by omega,hno2⟩,by omega,?_⟩)|exact cSd|apply qb []|refine exr ?_|refine qh ?_)
   ·have hu:upto 10 (text.drop 6)=(text.drop 6).take (k - 6):=by
     refine zfy hno ?_ (by omega)
     by_cases hk1:k<text.length
     ·rw [hgd]
      exact .inr (Classical.byContradiction fun h=>hgo ⟨hk1,h⟩)
     ·exact .inl (by omega)
    have hul:((text.drop 6).take (k - 6)).length=k - 6:=by simp;omega
    have hsp:(text.take k).drop 6=(text.drop 6).take (k - 6):=by rw [List.drop_take]
    have htk:wb text=match numZ ((text.drop 6).take (k - 6)) with
     |some n=>if xb n∧[10,10] <+: text.drop k then (n,text.drop (k+2)) else (0,text)
     |none=>(0,text):=by
     unfold wb
     rw [if_pos hp,hu,hul,show 6+(k - 6)=k by omega,show 8+(k - 6)=k+2 by omega]
     try rfl
    rw [htk]
    have hnl:((text.drop 6).take (k - 6)).length<1000000:=by omega
    by_cases hk1:k<text.length
    ·have hk2:text.getD k 0=10:=Classical.byContradiction fun h=>hgo ⟨hk1,h⟩
     have hk3:((text.getD k 0).toNat:Int)=10:=(qa4 _).2 hk2
     cases hz:numZ ((text.drop 6).take (k - 6)) with
     |none=>
      rw [← hsp] at hz
      have hnN:=fun st=>qf2 _ st (by rw [hsp];omega) hz
      apply qd []
      repeat' (first|apply And.intro|(intro h;try exact cDd)|exact⟨Tryz.call106⟩|refine cpe hnN ?_|exact cSd|apply qb []|refine exr ?_|refine qh ?_)
     |some n=>
      rw [← hsp] at hz
      have hnS:=fun st=>qdm _ n st (by rw [hsp];omega) hz
      simp only
      by_cases hg:xb n
      ·have hg1:decide (xb n)=true:=decide_eq_true hg
       have hgo:=fun st=>qgz n st
       simp only [hg1] at hgo
       by_cases hk4:text.length≤k+1
       ·have hnp:¬ [10,10] <+: text.drop k:=fun ⟨q,hq⟩=>by
         have:=congrArg List.length hq
         simp at this
         omega
        rw [if_neg (fun h=>hnp h.2)]
        apply qd []
        repeat' (first|apply And.intro|(intro h;try exact cDd)|exact⟨Tryz.call106⟩|refine cpe hnS ?_|exact⟨Tryz.call107⟩|refine cpe hgo ?_|exact cSd|apply qb []|refine exr ?_|refine qh ?_)
       ·have e2:text.drop k=text.getD k 0::text.getD (k+1) 0::text.drop (k+2):=by
         rw [List.drop_eq_getElem_cons hk1,List.drop_eq_getElem_cons (show k+1<text.length by omega)]
         simp [List.getD,hk1,show k+1<text.length by omega]
        by_cases hk5:text.getD (k+1) 0=10
        ·have hk6':((text.getD (k+1) 0).toNat:Int)=10:=(qa4 _).2 hk5
         have hk7:¬ ((text.getD (k+1) 0).toNat:Int)≠10:=fun h=>h hk6'
         rw [if_pos ⟨hg,by rw [e2,hk2,hk5];exact⟨_,rfl⟩⟩]
         apply qd []
         repeat' (first|apply And.intro|(intro h;try exact cDd)|exact⟨Tryz.call106⟩|refine cpe hnS ?_|exact⟨Tryz.call107⟩|refine cpe hgo ?_|exact cSd|apply qb []|refine exr ?_|refine qh ?_)
         all_goals exact absurd hk6' (by assumption)
        ·have hk6':¬ ((text.getD (k+1) 0).toNat:Int)=10:=fun e=>hk5 ((qa4 _).1 e)
         rw [if_neg (fun h=>by
          obtain⟨q,hq⟩:=h.2
          rw [e2] at hq
          exact hk5 (List.cons.inj (List.cons.inj hq).2).1.symm)]
         apply qd []
         repeat' (first|apply And.intro|(intro h;try exact cDd)|exact⟨Tryz.call106⟩|refine cpe hnS ?_|exact⟨Tryz.call107⟩|refine cpe hgo ?_|exact cSd|apply qb []|refine exr ?_|refine qh ?_)
         all_goals exact absurd hk6' (by assumption)
      ·have hg1:decide (xb n)=false:=decide_eq_false hg
       have hgo:=fun st=>qgz n st
       simp only [hg1] at hgo
       rw [if_neg (fun h=>hg h.1)]
       apply qd []
       repeat' (first|apply And.intro|(intro h;try exact cDd)|exact⟨Tryz.call106⟩|refine cpe hnS ?_|exact⟨Tryz.call107⟩|refine cpe hgo ?_|exact cSd|apply qb []|refine exr ?_|refine qh ?_)
    ·have hke:k=text.length:=by omega
     have hnp:¬ [10,10] <+: text.drop k:=fun ⟨q,hq⟩=>by
      have:=congrArg List.length hq
      simp at this
      omega
     cases hz:numZ ((text.drop 6).take (k - 6)) with
     |none=>
      rw [← hsp] at hz
      have hnN:=fun st=>qf2 _ st (by rw [hsp];omega) hz
      apply qd []
      repeat' (first|apply And.intro|(intro h;try exact cDd)|exact⟨Tryz.call106⟩|refine cpe hnN ?_|exact cSd|apply qb []|refine exr ?_|refine qh ?_)
     |some n=>
      rw [← hsp] at hz
      have hnS:=fun st=>qdm _ n st (by rw [hsp];omega) hz
      simp only
      rw [if_neg (fun h=>hnp h.2)]
      by_cases hg:xb n
      ·have hg1:decide (xb n)=true:=decide_eq_true hg
       have hgo:=fun st=>qgz n st
       simp only [hg1] at hgo
       apply qd []
       repeat' (first|apply And.intro|(intro h;try exact cDd)|exact⟨Tryz.call106⟩|refine cpe hnS ?_|exact⟨Tryz.call107⟩|refine cpe hgo ?_|exact cSd|apply qb []|refine exr ?_|refine qh ?_)
      ·have hg1:decide (xb n)=false:=decide_eq_false hg
       have hgo:=fun st=>qgz n st
       simp only [hg1] at hgo
       apply qd []
       repeat' (first|apply And.intro|(intro h;try exact cDd)|exact⟨Tryz.call106⟩|refine cpe hnS ?_|exact⟨Tryz.call107⟩|refine cpe hgo ?_|exact cSd|apply qb []|refine exr ?_|refine qh ?_)
  ·have hp':text.take 6≠[35,37,103,101,110,32]:=fun h=>hp (hp6.1 h)
   have ht:wb text=(0,text):=by unfold wb;rw [if_neg hp]
   rw [ht]
   apply qd []
   repeat' (first|apply And.intro|(intro h;try exact cDd)|exact absurd hp' (by assumption)|exact cSd|apply qb []|refine exr ?_|refine qh ?_)
@[reducible] def qfx (L : List LnV) : AV := .sl 1 (L.map fun x => Iv (qy x.text)) none
def qgy (L:List LnV):Nat→Bool
 | 0=>false
 |j+1=>match L[j]? with
  |some x=>decide (qy x.text=4∨qy x.text=3)
  |none=>false
theorem qj6 {L:List LnV} {i:Nat} {x:LnV} (h:L[i]? = some x):(L.map fun x=>Iv (qy x.text))[i]? = some (Iv (qy x.text)):=by simp [h]
theorem qii {L:List LnV} {i:Nat} {x:LnV} (h:L[i]? = some x):(L.map lnA)[i]? = some (lnA x):=by simp [h]
theorem qxn (L:List LnV) (i:Nat) (st:List AObj) (hi:i≤L.length) (hL:L.length<1000000):qo E 180 [qfx L,Iv i] st fun r st'=>r=Bv (qgy L i)∧st'=st:=by
 refine zm [.a (qfx L),.i i] (qr _) Tryz.func180 rfl rfl (fun _=>rfl) rfl fun S0=>?_
 cases i with
 |zero=>
  apply qd []
  repeat' (first|apply And.intro|(intro h;try exact cDd)|exact cSd|apply qb []|refine exr ?_|refine qh ?_)
 |succ j=>
  obtain⟨x,hx⟩:∃ x,L[j]? = some x:=⟨_,List.getElem?_eq_getElem (by omega)⟩
  have hget:=qj6 hx
  have hp:qgy L (j+1)=decide (qy x.text=4∨qy x.text=3):=by simp only [qgy,hx]
  rw [hp]
  apply qd []
  repeat' (first|apply And.intro|(intro h;try exact cDd)|(refine Exists.intro (j) ⟨by omega,_,hget,?_⟩)|exact cSd|apply qb []|refine exr ?_|refine qh ?_)
  all_goals (simp [*];done)
theorem qv4 {L:List LnV} {k:Nat} {x:LnV} (h:L[k]? = some x):(L.drop k).map vz=(x.text,x.ended)::(L.drop (k+1)).map vz:=by
 obtain⟨hlt,he⟩:=List.getElem?_eq_some_iff.1 h
 rw [List.drop_eq_getElem_cons hlt,he]
 rfl
def qg1 (L:List LnV) (i:Nat) (x:LnV):List qa:=x.text::vp ((L.drop (i+1)).map vz)
theorem qz5:∀ (r:List (qa×Bool)),(vp r).length≤r.length
 | []=>by simp [vp]
 |(t,e)::r=>by
  have:=qz5 r
  rw [vp]
  split <;> simp <;> omega
theorem qz6:∀ {r:List (qa×Bool)} {n:Nat},(∀ p∈r,p.1.length≤n)→∀ s∈vp r,s.length≤n
 | [],_,_,s,hs=>by simp [vp] at hs
 |(t,e)::r,n,h,s,hs=>by
  rw [vp] at hs
  split at hs
  ·rcases List.mem_cons.1 hs with rfl|hs
   ·exact h (s,e) (by simp)
   ·exact qz6 (fun p hp=>h p (by simp [hp])) s hs
  ·simp at hs
structure LnsB (L:List LnV):Prop where
 len:L.length<100000
 val:∀ x∈L,x.text.length<100000
theorem LnsB.said {L:List LnV} (h:LnsB L) {i:Nat} {x:LnV} (hx:L[i]? = some x):LsB (qg1 L i x):=by
 have h1:=qz5 ((L.drop (i+1)).map vz)
 have h2:=h.len
 have h3:=h.val x (List.mem_of_getElem? hx)
 refine⟨?_,fun s hs=>?_⟩
 ·unfold qg1
  simp at h1 ⊢
  omega
 ·rcases List.mem_cons.1 hs with rfl|hs
  ·omega
  ·have:=qz6 (n:=100000) (fun p hp=>by
    obtain⟨y,hy,rfl⟩:=List.mem_map.1 hp
    have:=h.val y (List.mem_of_mem_drop hy)
    simp only [vz]
    omega) s hs
   omega
theorem qqc (L:List LnV) (i:Nat) (x:LnV) (st:List AObj) (hL:LnsB L) (hx:L[i]? = some x):qo E 111 [lnsA L,qfx L,Iv i] st fun r st'=>r=Ss (qg1 L i x)∧st'=st:=by
 refine zm [.a (lnsA L),.a (qfx L),.i i] (qk9 _) Tryz.func111 rfl rfl (fun _=>rfl) rfl fun S0=>?_
 have hLl:=hL.len
 have hil:=lt_of_getElem? hx
 have hget:=qii hx
 have hml:(L.map lnA).length=L.length:=by simp
 apply qd [14]
 repeat' (first|apply And.intro|(intro h;try exact cDd)|(refine Exists.intro (i) ⟨by omega,_,hget,?_⟩)|exact cSd|apply qb [14]|refine exr ?_|refine qh ?_)
 refine ji (X:=Nat×List qa) (fun (k,acc)=>⟨[(0,.a (lnsA L)),(1,.a (qfx L)),(7,.tp 0),(8,.i k)],[(0,some (.tip 1 9 (acc.map fun x=>Sv x)))],1⟩) (fun (k,acc)=>i+1≤k∧k≤L.length∧acc++vp ((L.drop k).map vz)=qg1 L i x∧acc.length≤k) (fun (k,_)=>L.length - k) (i+1,[x.text]) ⟨by omega,by omega,rfl,by simp⟩ ?_ ?_
 ·skip
  repeat' (first|apply And.intro|(intro h;try exact cDd)|exact cSd|apply qb []|refine exr ?_|refine qh ?_)
  all_goals (simp;done)
 ·rintro⟨k,acc⟩ ⟨hk1,hk2,hacc,hal⟩
  have hmc:(acc.map fun x=>Sv x).length=acc.length:=by simp
  by_cases hk:k<L.length
  ·obtain⟨y,hy⟩:∃ y,L[k]? = some y:=⟨_,List.getElem?_eq_getElem hk⟩
   have hgy:=qii hy
   have hky:=qj6 hy
   rw [qv4 hy] at hacc
   by_cases h3:qy y.text=3
   ·rw [qgx h3] at hacc
    apply qd []
    repeat' (first|apply And.intro|(intro h;try exact cDd)|(refine Exists.intro (k) ⟨by omega,_,hgy,?_⟩)|(refine Exists.intro (k) ⟨by omega,_,hky,?_⟩)|(refine Exists.intro (k+1,acc++[y.text]) ⟨⟨by omega,by omega,by simpa using hacc,by simp;omega⟩,by simp only;omega,?_⟩)|exact cSd|apply qb []|refine exr ?_|refine qh ?_)
    all_goals (simp;done)
   ·rw [qme h3,List.append_nil] at hacc
    rw [← hacc]
    apply qd []
    repeat' (first|apply And.intro|(intro h;try exact cDd)|(refine Exists.intro (k) ⟨by omega,_,hky,?_⟩)|exact cSd|apply qb []|refine exr ?_|refine qh ?_)
  ·rw [List.drop_eq_nil_of_le (by omega),List.map_nil,vp,List.append_nil] at hacc
   rw [← hacc]
   apply qd []
   repeat' (first|apply And.intro|(intro h;try exact cDd)|exact cSd|apply qb []|refine exr ?_|refine qh ?_)
theorem q08 (L:List LnV) (i:Nat) (x:LnV) (n:Nat) (rec:Int) (st:List AObj) (hL:LnsB L) (hx:L[i]? = some x):qo E 109 [lnsA L,qfx L,Iv i,Iv n,Iv rec] st fun r st'=>r=Iv (xg (qgy L i) x.text x.ended ((L.drop (i+1)).map vz) n rec)∧st'=st:=by
 refine zm [.a (lnsA L),.a (qfx L),.i i,.i n,.i rec] (qr _) Tryz.func109 rfl rfl (fun _=>rfl) rfl fun S0=>?_
 have hLl:=hL.len
 have hil:=lt_of_getElem? hx
 have hgy:=qii hx
 have hky:=qj6 hx
 have hbe:=fun st=>qxn L i st (by omega) (by omega)
 have hsa:=fun st=>qqc L i x st hL hx
 have hun:=fun st=>qi7 (qg1 L i x) st (hL.said hx)
 unfold qbr at hun
 unfold xg
 have hsd:x.text::vp ((L.drop (i+1)).map vz)=qg1 L i x:=rfl
 rw [hsd]
 generalize qgy L i=pv at *
 generalize qg1 L i x=sl at *
 generalize (zn sl).2=u at *
 obtain⟨xn,xa,xt,xe⟩:=x
 dsimp only at *
 apply qd []
 repeat' (first|apply And.intro|(intro h;try exact cDd)|(refine Exists.intro (i) ⟨by omega,_,hky,?_⟩)|(refine Exists.intro (i) ⟨by omega,_,hgy,?_⟩)|exact⟨Tryz.call180⟩|refine cpe hbe ?_|exact⟨Tryz.call111⟩|refine cpe hsa ?_|exact⟨Tryz.call110⟩|refine cpe hun ?_|exact cSd|apply qb []|refine exr ?_|refine qh ?_)
 all_goals clear hbe hsa hun hgy hky
 all_goals (simp_all <;> omega)
end Go.Proofs.YtmoklbacdkmkaaaGreatDoor
namespace Go.Pl
open Go Go.Proofs Go.Proofs.YtmoklbacdkmkaaaGreatDoor
theorem qtg (l:qa):(ze l).1=1∨(ze l).1=2∨(ze l).1=3:=by
 unfold ze
 split
 ·split
  ·split
   ·unfold xq
    split <;> simp
   ·split
    ·unfold w6
     split
     ·simp
     ·split <;> simp
    ·simp
  ·simp
 ·split <;> simp
theorem qwu {l:qa} (h1:(ze l).1=1):∃ k:Nat,(ze l).2.2=(k:Int)∧0<k∧k≤l.length:=by
 obtain⟨_,m,hm,hn⟩:=qth (show ze l=(1,(ze l).2.1,(ze l).2.2) by rw [← h1])
 refine⟨_,hn,?_,?_⟩
 ·rw [qo9]
  simp [recL,v8,q8]
 ·have:=congrArg List.length hm
  rw [List.length_append] at this
  omega
theorem qm8 {l:qa}:(ze l).2.1.length≤l.length:=by
 have hp:=kp 10 l
 unfold ze
 split
 ·split
  ·split
   ·simp
   ·split
    ·unfold w6
     split
     ·simp
     ·split
      ·simp;omega
      ·simp
    ·simp
  ·simp
 ·split <;> simp
theorem qnm (l:qa):jc l.length l≤l.length:=(qnn _ _ _ (Nat.le_refl _) (Nat.le_refl _)).2
theorem qtj {f:Nat} {l:qa} {a:Int} {bs:List (List qs)} {es:List Int} (h:(ze l).1=2):recsF (f+1) l a bs es=(false,bs,es,l):=by
 rw [recsF,if_pos h]
theorem qww {f:Nat} {l:qa} {a:Int} {bs:List (List qs)} {es:List Int} (h:(ze l).1=3):recsF (f+1) l a bs es=(true,bs,es,l):=by
 rw [recsF,if_neg (by rw [h];decide),if_neg (by rw [h];decide)]
theorem qwv {f:Nat} {l:qa} {a:Int} {bs:List (List qs)} {es:List Int} (h:(ze l).1=1) (hd:decF (ze l).2.1=none):recsF (f+1) l a bs es=(true,bs,es,l):=by
 rw [recsF,if_neg (by rw [h];decide),if_pos h,hd]
theorem qti {f k:Nat} {l:qa} {a:Int} {bs:List (List qs)} {es:List Int} {b:List qs} (h:(ze l).1=1) (hd:decF (ze l).2.1=some b) (hk:(ze l).2.2=(k:Int)):recsF (f+1) l a bs es=recsF f (l.drop k) (a+k) (bs++[b]) (es++[a+k]):=by
 rw [recsF,if_neg (by rw [h];decide),if_pos h,hd,hk]
 rfl
end Go.Pl
namespace Go.Proofs.YtmoklbacdkmkaaaGreatDoor
open Go Go.Av Go.RowKit Go.Proofs Go.Pl
@[reducible] def qai (es : List Int) : AV := .sl 1 (es.map fun x => Iv x) none
@[reducible] def qcl (bs : List (List qs)) : AV := .sl 1 (bs.map jf) none
@[reducible] def yt (b : ve) : AV := .ag [Iv b.gen, Sv b.base, qcl b.batches, qai b.ends, Sv b.tail]
theorem zf8 (l:qa) (b:Bool) (st:List AObj) (hl:l.length<4294967281) (h:begF l=b):qo E 101 [Sv l] st fun r st'=>r=Bv b∧st'=st:=by
 subst h
 exact za3 l st hl
theorem za2 (text:qa) (st:List AObj) (hl:text.length<1000000):qo E 57 [Sv text] st fun r st'=>r=Iv ((jc text.length text:Nat):Int)∧st'=st:=by
 refine zm [.s text] (qr _) Tryz.func57 rfl rfl (fun _=>rfl) rfl fun S0=>?_
 apply qd []
 repeat' (first|apply And.intro|(intro h;try exact cDd)|exact⟨Tryz.call100⟩|(refine Exists.intro _ ⟨qms _,?_⟩)|exact cSd|apply qb []|refine exr ?_|refine qh ?_)
 refine qgl (X:=Int) text 1 2 [0,1] (fun r=>⟨[(0,.s text),(2,.bx 0 0),(5,.fn (.func 163) [] [.bx 1 0])],[(0,some (.cells 3 [.i r])),(1,some (.cells 9 [.s text]))],2⟩) _
  (fun k rest r=>r=0∧rest.length≤text.length∧jc text.length text=jc text.length rest) (fun c r=>c = .ret∧r=((jc text.length text:Nat):Int)) 0 ⟨rfl,by omega,rfl⟩ ?_ id (by omega) (fun _=>rfl) rfl (fun _=>rfl) (fun _=>rfl) rfl ?_ ?_ ?_
 ·skip
  repeat' (first|apply And.intro|(intro h;try exact cDd)|exact cSd|apply qb []|refine exr ?_|refine qh ?_)
 ·rintro k rest r ⟨rfl,hrl,hbeg⟩ hne hle
  have hu:=ko 10 rest
  have hpl:=kp 10 rest
  have hbg:=fun st=>zf8 (upto 10 rest) _ st (by omega) rfl
  unfold qma
  by_cases hb:begF (upto 10 rest)=true
  ·rw [hb] at hbg
   have hv:((text.length:Int) - rest.length)=((jc text.length text:Nat):Int):=by
    rw [hbeg,qlu hne hb]
    omega
   refine RA.mk fun S F ρ rd=>?_
   apply qd []
   repeat' (first|apply And.intro|(intro h;try exact cDd)|(refine RB.mk fun S rd=>?_;apply qd [])|exact⟨Tryz.call101⟩|refine cpe hbg ?_|(refine Exists.intro _ ⟨⟨rfl,hv⟩,?_⟩)|exact cSd|apply qb []|refine exr ?_|refine qh ?_)
  ·have hb':begF (upto 10 rest)=false:=by simpa using hb
   rw [hb'] at hbg
   refine RA.mk fun S F ρ rd=>?_
   apply qd []
   repeat' (first|apply And.intro|(intro h;try exact cDd)|(refine RB.mk fun S rd=>?_;apply qd [])|exact⟨Tryz.call101⟩|refine cpe hbg ?_|(refine Exists.intro 0 ⟨⟨rfl,by omega,by rw [hbeg,qno hne (by rw [hb'];decide)]⟩,?_⟩)|exact cSd|apply qb []|refine exr ?_|refine qh ?_)
 ·rintro k r ⟨rfl,hrl,hbeg⟩
  rw [qht] at hbeg
  rw [hbeg]
  repeat' (first|apply And.intro|(intro h;try exact cDd)|exact cSd|apply qb []|refine exr ?_|refine qh ?_)
 ·rintro c r ⟨rfl,rfl⟩
  repeat' (first|apply And.intro|(intro h;try exact cDd)|exact cSd|apply qb []|refine exr ?_|refine qh ?_)
theorem qal {a b c:AV} (h1:Pure a) (h2:Pure b) (h3:Pure c):Pure (.tu [a,b,c]):=qc4 fun z hz=>by
 simp only [List.mem_cons,List.not_mem_nil,or_false] at hz
 rcases hz with rfl|rfl|rfl
 ·exact h1
 ·exact h2
 ·exact h3
def qbq (text:qa):AV:=if 60000<text.length then .tu [xi [],Iv (-9),Iv 1] else match (jt text).1 with
 |some e=>.tu [xi [],Iv e.1,Iv e.2]
 |none=>.tu [xi (jt text).2,Iv (-9),Iv 0]
theorem qu1 (text:qa):Pure (qbq text):=by
 unfold qbq
 split
 ·exact qal (qei _) (qr _) (qr _)
 ·split
  ·exact qal (qei _) (qr _) (qr _)
  ·exact qal (qei _) (qr _) (qr _)
theorem q6d {L:List LnV} {k:Nat} {x:LnV} (h:L[k]? = some x):qgy L (k+1)=decide (qy x.text=4∨qy x.text=3):=by simp only [qgy,h]
set_option maxHeartbeats 2000000 in
theorem qoo (text:qa) (st:List AObj) (hl:text.length<1000000):qo E 63 [Sv text] st fun r st'=>r=qbq text∧st'=st:=by
 refine zm [.s text] (qu1 text) Tryz.func63 rfl rfl (fun _=>rfl) rfl fun S0=>?_
 by_cases hbig:60000<text.length
 ·have e:qbq text = .tu [xi [],Iv (-9),Iv 1]:=if_pos hbig
  rw [e]
  apply qd []
  repeat' (first|apply And.intro|(intro h;try exact cDd)|exact cSd|apply qb []|refine exr ?_|refine qh ?_)
 have hRA:qbq text=match (jt text).1 with
  |some e=>.tu [xi [],Iv e.1,Iv e.2]
  |none=>.tu [xi (jt text).2,Iv (-9),Iv 0]:=if_neg hbig
 rw [hRA]
 clear hRA
 obtain⟨L,hL⟩:∃ L,L=lns text:=⟨_,rfl⟩
 have hLl:L.length≤text.length:=by rw [hL];exact qch _ text 0 0 (Nat.le_refl _)
 have hLB:LnsB L:=⟨by omega,fun x hx=>by have:=qs3 _ text 0 0 (Nat.le_refl _) x (by rw [hL] at hx;exact hx);omega⟩
 have hrun:refL 0 ((L.drop 0).map vz) (qgy L 0) ⟨2,[],[]⟩ 0 []=jt text:=by
  rw [List.drop_zero,hL,qoa]
  exact qku text
 have hml:(L.map lnA).length=L.length:=by simp
 have hspl:∀ st,qo E 61 [Sv text] st fun r st'=>r=lnsA L∧st'=st:=fun st=>by rw [hL];exact qh7 text st (by omega)
 clear hL
 generalize jt text=PF at hrun
 apply qd []
 repeat' (first|apply And.intro|(intro h;try exact cDd)|exact⟨Tryz.call61⟩|refine cpe hspl ?_|exact cSd|apply qb []|refine exr ?_|refine qh ?_)
 refine ji (X:=Nat) (fun k=>⟨[(5,.a (lnsA L)),(6,.tp 0),(7,.i k)],[(0,some (.tip 1 3 ((L.take k).map fun x=>Iv (qy x.text))))],1⟩) (fun k=>k≤L.length) (fun k=>L.length - k) 0 (by omega) ?_ ?_
 ·skip
  repeat' (first|apply And.intro|(intro h;try exact cDd)|exact cSd|apply qb []|refine exr ?_|refine qh ?_)
 ·intro k hk
  by_cases hkl:k<L.length
  ·obtain⟨x,hx⟩:∃ x,L[k]? = some x:=⟨_,List.getElem?_eq_getElem hkl⟩
   have hgx:=qii hx
   have hxl:=hLB.val x (List.mem_of_getElem? hx)
   have hkd:=fun st=>qff x.text st (by omega)
   apply qd []
   repeat' (first|apply And.intro|(intro h;try exact cDd)|(refine Exists.intro _ ⟨rfl,_,hgx,?_⟩)|exact⟨Tryz.call108⟩|refine cpe hkd ?_|(refine Exists.intro (k+1) ⟨by omega,by omega,?_⟩)|exact cSd|apply qb []|refine exr ?_|refine qh ?_)
   rw [List.take_add_one,hx]
   simp
  ·have e:L.take k=L:=List.take_of_length_le (by omega)
   apply qd []
   repeat' (first|apply And.intro|(intro h;try exact cDd)|exact cSd|apply qb []|refine exr ?_|refine qh ?_)
   refine ji (X:=Nat×jj×Int×List jj) (fun (k,⟨nk,nr,nf⟩,rec,out)=>⟨[(5,.a (lnsA L)),(6,.a (qfx L)),(8,.tp 0),(9,.bx 1 0),(10,.i rec),(11,.i k)],
     [(0,some (.tip 3 137 (out.map wg))),(1,some (.cells 137 [.i nk,.s nr,.tp 2])),(2,some (.tip 2 156 (nf.map fldA)))],3⟩)
    (fun (k,now,rec,out)=>k≤L.length∧refL k ((L.drop k).map vz) (qgy L k) now rec out=PF∧0≤rec∧rec≤k∧out.length≤2 * k∧now.fields.length≤k∧now.raw.length≤200000 * k) (fun x=>L.length - x.1) (0,⟨2,[],[]⟩,0,[])
    ⟨by omega,hrun,by omega,by omega,by simp,by simp,by simp⟩ ?_ ?_
   ·skip
    repeat' (first|apply And.intro|(intro h;try exact cDd)|(refine qh ?_;rw [e])|exact cSd|apply qb []|refine exr ?_|refine qh ?_)
   ·rintro⟨j,⟨nk,nr,nf⟩,rec,out⟩ ⟨hj,hR,hr0,hr1,hol,hfl,hrl⟩
    simp only at hfl hrl
    by_cases hjl:j<L.length
    ·obtain⟨x,hx⟩:∃ x,L[j]? = some x:=⟨_,List.getElem?_eq_getElem hjl⟩
     have hgx:=qii hx
     have hkx:=qj6 hx
     have hxl:=hLB.val x (List.mem_of_getElem? hx)
     have hwr:∀ st,qo E 109 [lnsA L,qfx L,Iv j,Iv ((nf.map fldA).length:Nat),Iv rec] st fun r st'=>r=Iv (xg (qgy L j) x.text x.ended ((L.drop (j+1)).map vz) nf.length rec)∧st'=st:=fun st=>by rw [List.length_map];exact q08 L j x nf.length rec st hLB hx
     have hsa:=fun st=>qqc L j x st hLB hx
     have hun:=fun st=>qi7 (qg1 L j x) st (hLB.said hx)
     unfold qbr at hun
     have hpv:=q6d hx
     have hsd:x.text::vp ((L.drop (j+1)).map vz)=qg1 L j x:=rfl
     rw [qv4 hx,refL,hsd] at hR
     simp only at hR
     by_cases h1:qy x.text=1
     ·apply qd []
      repeat' (first|apply And.intro|(intro h;try exact cDd)|(refine Exists.intro _ ⟨rfl,_,hgx,?_⟩)|(refine Exists.intro _ ⟨rfl,_,hkx,?_⟩)|exact⟨Tryz.call109⟩|refine cpe hwr ?_|exact⟨Tryz.call111⟩|refine cpe hsa ?_|exact⟨Tryz.call110⟩|refine cpe hun ?_|(rw [if_pos (by assumption)] at hR;rw [← hR];exact qpb _)|(refine Exists.intro (j+1,⟨2,[],[]⟩,rec,outR ⟨nk,nr,nf⟩ out++[⟨1,x.text++[10],[]⟩]) ⟨?_,by simp only;omega,?_⟩)|exact cSd|apply qb []|refine exr ?_|refine qh ?_)
      all_goals first|grind [outR]|(simp [outR,wg, *] at hR ⊢;done)|(simp [outR,wg, *] at hR ⊢;omega)
     ·by_cases h4:qy x.text=4
      ·apply qd []
       repeat' (first|apply And.intro|(intro h;try exact cDd)|(refine Exists.intro _ ⟨rfl,_,hgx,?_⟩)|(refine Exists.intro _ ⟨rfl,_,hkx,?_⟩)|exact⟨Tryz.call109⟩|refine cpe hwr ?_|exact⟨Tryz.call111⟩|refine cpe hsa ?_|exact⟨Tryz.call110⟩|refine cpe hun ?_|(rw [if_pos (by assumption)] at hR;rw [← hR];exact qpb _)|(refine Exists.intro (j+1,⟨3,nr++x.text++[10],nf++[(zn (qg1 L j x)).1]⟩,if nk=2 then rec+1 else rec,out) ⟨?_,by simp only;omega,?_⟩)|exact cSd|apply qb []|refine exr ?_|refine qh ?_)
       all_goals first|grind [outR]|(simp [outR,wg, *] at hR ⊢;done)|(simp [outR,wg, *] at hR ⊢;omega)
      ·apply qd []
       repeat' (first|apply And.intro|(intro h;try exact cDd)|(refine Exists.intro _ ⟨rfl,_,hgx,?_⟩)|(refine Exists.intro _ ⟨rfl,_,hkx,?_⟩)|exact⟨Tryz.call109⟩|refine cpe hwr ?_|exact⟨Tryz.call111⟩|refine cpe hsa ?_|exact⟨Tryz.call110⟩|refine cpe hun ?_|(rw [if_pos (by assumption)] at hR;rw [← hR];exact qpb _)|(refine Exists.intro (j+1,⟨nk,nr++x.text++[10],nf⟩,rec,out) ⟨?_,by simp only;omega,?_⟩)|exact cSd|apply qb []|refine exr ?_|refine qh ?_)
       all_goals first|grind [outR]|(simp [outR,wg, *] at hR ⊢;done)|(simp [outR,wg, *] at hR ⊢;omega)
    ·have e:(L.drop j).map vz=[]:=by rw [List.drop_eq_nil_of_le (by omega)];rfl
     rw [e,refL] at hR
     rw [← hR]
     apply qd []
     repeat' (first|apply And.intro|(intro h;try exact cDd)|exact cSd|apply qb []|refine exr ?_|refine qh ?_)
     all_goals first|grind [outR]|(simp [outR,wg, *] at hR ⊢;done)|(simp [outR,wg, *] at hR ⊢;omega)
theorem qy8 (b:List qs):qlj (jf b):=fun y hy=>by
 simp only [AV.cells,List.mem_cons,List.not_mem_nil,or_false] at hy
 subst hy
 exact qef _
theorem qxg (bs:List (List qs)):Pure (qcl bs):=qa9 fun x hx=>by
 obtain⟨b,_,rfl⟩:=List.mem_map.1 hx
 exact qy8 b
theorem qcq (es:List Int):Pure (qai es):=qa9 fun x hx=>by
 obtain⟨b,_,rfl⟩:=List.mem_map.1 hx
 intro y hy
 simp only [AV.cells,List.mem_cons,List.not_mem_nil,or_false] at hy
 subst hy
 exact qr _
theorem qhu (b:ve):Pure (yt b):=qla fun x hx=>by
 simp only [List.mem_cons,List.not_mem_nil,or_false] at hx
 rcases hx with rfl|rfl|rfl|rfl|rfl
 ·exact qr _
 ·exact qr _
 ·exact qxg _
 ·exact qcq _
 ·exact qr _
def qnr (x:ErrV×ve):AV:=.tu [yt x.2,errA x.1]
theorem q17 (x:ErrV×ve):Pure (qnr x):=kf (qhu _) (vn _)
theorem q27 (text:qa) (st:List AObj) (hl:60000<text.length) (h2:text.length<1000000):qo E 58 [Sv text] st fun r st'=>r = .tu [xi [],errA (.num 1)]∧st'=st:=by
 refine zm [.s text] (kf (qei _) (vn _)) Tryz.func58 rfl rfl (fun _=>rfl) rfl fun S0=>?_
 apply qd []
 repeat' (first|apply And.intro|(intro h;try exact cDd)|exact cSd|apply qb []|refine exr ?_|refine qh ?_)
def itsE (text:qa):List jj:=if 60000<text.length then [] else (jt text).2
theorem qw3 (text:qa) (st:List AObj) (hl:text.length<1000000):qo E 58 [Sv text] st fun r st'=>r = .tu [xi (itsE text),errA (jr text)]∧st'=st:=by
 unfold jr itsE
 by_cases hb:60000<text.length
 ·rw [if_pos hb,if_pos hb]
  exact q27 text st hb hl
 ·rw [if_neg hb,if_neg hb]
  have:=qrc text st (by omega)
  unfold qdl at this
  rcases hp:(jt text).1 with _ | ⟨x,y⟩
  ·rw [hp] at this
   exact this
  ·rw [hp] at this
   exact this
theorem qyw (gen:Int) (base text:qa) (a:Nat) (hl:text.length<1000000) (ha:a≤text.length) (r:SV) (hp1:List (Nat×Option SR)) (nx1:Nat) (R:Bool×List (List qs)×List Int×qa) (hR:Go.Pl.recsF (text.length+1) (text.drop a) a [] []=R)
  (hok:R.1=false→r = .a (.v .nilIface)∧hp1=[(0,some (.cells 26 [.i gen,.s base,.tp 1,.tp 2,.s R.2.2.2])),(1,some (.tip 1 55 (R.2.1.map jf))),(2,some (.tip 1 3 (R.2.2.1.map fun x=>Iv x)))]∧nx1=3)
  (hbad:R.1=true→r = .a (errA (.at' R.2.1.length 10))∧hp1=[]∧nx1=1):v4 E 59 [.bx 0 0,.s text,.i a] 1 (hpF [(0,some (.cells 26 [.i gen,.s base,.a zk,.a zk,.s []]))]) ⟨r,vv [(0,some (.cells 26 [.i gen,.s base,.a zk,.a zk,.s []]))],hp1++wj [(0,some (.cells 26 [.i gen,.s base,.a zk,.a zk,.s []]))],nx1⟩:=by
 refine x8 [.bx 0 0,.s text,.i a] [(0,some (.cells 26 [.i gen,.s base,.a zk,.a zk,.s []]))] 1 r hp1 nx1 Tryz.func59 rfl rfl rfl ?_ fun S F ρ=>?_
 ·cases h:R.1 with
  |false=>obtain⟨rfl,rfl,rfl⟩:=hok h;rfl
  |true=>obtain⟨rfl,rfl,rfl⟩:=hbad h;rfl
 apply qd []
 repeat' (first|apply And.intro|(intro h;try exact cDd)|exact cSd|apply qb []|refine exr ?_|refine qh ?_)
 refine ji (X:=Nat×Nat×List (List qs)×List Int) (fun (k,f,bs,es)=>⟨[(0,.bx 0 0),(1,.s text),(2,.i k)],[(0,some (.cells 26 [.i gen,.s base,.tp 1,.tp 2,.s []])),(1,some (.tip 1 55 (bs.map jf))),(2,some (.tip 1 3 (es.map fun x=>Iv x)))],3⟩)
  (fun (k,f,bs,es)=>k≤text.length∧text.length - k<f∧Go.Pl.recsF f (text.drop k) k bs es=R∧bs.length≤k∧es.length≤k) (fun x=>text.length - x.1) (a,text.length+1,[],[]) ⟨ha,by omega,hR,by simp,by simp⟩ ?_ ?_
 ·skip
  repeat' (first|apply And.intro|(intro h;try exact cDd)|exact cSd|apply qb []|refine exr ?_|refine qh ?_)
 ·rintro⟨k,f,bs,es⟩ ⟨hk,hf,hR,hbl,hel⟩
  obtain⟨f,rfl⟩:∃ f',f=f'+1:=⟨f - 1,by omega⟩
  have hrd:=fun st=>zg4 (text.drop k) st (by simp;omega)
  have hll:(text.drop k).length=text.length - k:=by simp
  have hbd:=qm8 (l:=text.drop k)
  have hde:=fun st=>zbc (ze (text.drop k)).2.1 st (by omega)
  rcases qtg (text.drop k) with h1|h2|h3
  ·rw [h1] at hrd
   obtain⟨n',hn',hn0',hnl⟩:=qwu h1
   cases hdd:decF (ze (text.drop k)).2.1 with
   |none=>
    rw [qwv h1 hdd] at hR
    rw [hdd] at hde
    subst hR
    obtain⟨rfl,rfl,rfl⟩:=hbad rfl
    apply qd []
    repeat' (first|apply And.intro|(intro h;try exact cDd)|exact⟨Tryz.call104⟩|refine cpe hrd ?_|exact⟨Tryz.call105⟩|refine cpe hde ?_|exact cSd|apply qb []|refine exr ?_|refine qh ?_)
    rw [List.length_map]
    rfl
   |some b=>
    rw [qti h1 hdd hn'] at hR
    rw [hdd] at hde
    rw [hn'] at hrd
    apply qd []
    repeat' (first|apply And.intro|(intro h;try exact cDd)|exact⟨Tryz.call104⟩|refine cpe hrd ?_|exact⟨Tryz.call105⟩|refine cpe hde ?_|(refine Exists.intro (k+n',f,bs++[b],es++[((k+n':Nat):Int)]) ⟨?_,by simp only;omega,?_⟩)|exact cSd|apply qb []|refine exr ?_|refine qh ?_)
    all_goals first|(rw [← hR,Int.natCast_add,List.drop_drop];done)|(simp;done)
  ·rw [h2] at hrd
   rw [qtj h2] at hR
   subst hR
   obtain⟨rfl,rfl,rfl⟩:=hok rfl
   cases hdd:decF (ze (text.drop k)).2.1 <;> rw [hdd] at hde
   all_goals
    apply qd []
    repeat' (first|apply And.intro|(intro h;try exact cDd)|exact⟨Tryz.call104⟩|refine cpe hrd ?_|exact⟨Tryz.call105⟩|refine cpe hde ?_|exact cSd|apply qb []|refine exr ?_|refine qh ?_)
  ·rw [h3] at hrd
   rw [qww h3] at hR
   subst hR
   obtain⟨rfl,rfl,rfl⟩:=hbad rfl
   cases hdd:decF (ze (text.drop k)).2.1 <;> rw [hdd] at hde
   all_goals
    apply qd []
    repeat' (first|apply And.intro|(intro h;try exact cDd)|exact⟨Tryz.call104⟩|refine cpe hrd ?_|exact⟨Tryz.call105⟩|refine cpe hde ?_|exact cSd|apply qb []|refine exr ?_|refine qh ?_)
   all_goals
    rw [List.length_map]
    rfl
theorem qug (text:qa) (st:List AObj) (hl:text.length<1000000):qo E 19 [Sv text] st fun r st'=>r=qnr (vf text)∧st'=st:=by
 refine zm [.s text] (q17 _) Tryz.func19 rfl rfl (fun _=>rfl) rfl fun S0=>?_
 by_cases hbig:120000<text.length
 ·have e:vf text=(.num 1,qam):=if_pos hbig
  rw [e]
  apply qd []
  repeat' (first|apply And.intro|(intro h;try exact cDd)|exact cSd|apply qb []|refine exr ?_|refine qh ?_)
 have hsp:=qg3 text
 have hrl:(wb text).2.length≤text.length:=by
  conv=>rhs;rw [hsp.1]
  simp
 have hbl:=qnm (wb text).2
 obtain⟨g,rest,htk⟩:∃ g rest,wb text=(g,rest):=⟨_,_,rfl⟩
 have hF:vf text=match jr (rest.take (jc rest.length rest)) with
   | .no=>if (Go.Pl.recsF (text.length+1) (rest.drop (jc rest.length rest)) (((text.length - rest.length+jc rest.length rest:Nat)):Int) [] []).1=true then (.at' (Go.Pl.recsF (text.length+1) (rest.drop (jc rest.length rest)) (((text.length - rest.length+jc rest.length rest:Nat)):Int) [] []).2.1.length 10,qam)
    else (.no,⟨g,rest.take (jc rest.length rest),(Go.Pl.recsF (text.length+1) (rest.drop (jc rest.length rest)) (((text.length - rest.length+jc rest.length rest:Nat)):Int) [] []).2.1,(Go.Pl.recsF (text.length+1) (rest.drop (jc rest.length rest)) (((text.length - rest.length+jc rest.length rest:Nat)):Int) [] []).2.2.1,(Go.Pl.recsF (text.length+1) (rest.drop (jc rest.length rest)) (((text.length - rest.length+jc rest.length rest:Nat)):Int) [] []).2.2.2⟩)
   |e=>(e,qam):=by
  unfold vf
  rw [if_neg hbig]
  unfold qd0 qhs atH qc9
  rw [htk]
  try rfl
 have htk2:∀ st,qo E 56 [Sv text] st fun r st'=>r = .tu [Iv g,Sv rest]∧st'=st:=fun st=>by
  have:=zer text st hl
  rw [htk] at this
  exact this
 rw [htk] at hrl hbl hsp
 simp only at hrl hbl hsp
 have hdr:rest.drop (jc rest.length rest)=text.drop (text.length - rest.length+jc rest.length rest):=by
  have h1:text.length=(wz g).length+rest.length:=by
   have:=congrArg List.length hsp.1
   simpa using this
  conv=>rhs;rhs;rw [hsp.1]
  rw [← List.drop_drop,show text.length - rest.length=(wz g).length by omega,List.drop_left]
 rw [hdr] at hF
 clear hdr hsp htk
 have hbg:=fun st=>za2 rest st (by omega)
 generalize jc rest.length rest=a at hF hbl hbg
 have hpa:=fun st=>qw3 (rest.take a) st (by simp;omega)
 have hsub:((text.length:Int) - (rest.length:Int))+(a:Int)=((text.length - rest.length+a:Nat):Int):=by omega
 rw [show (((text.length - rest.length+a:Nat)):Int)=(((text.length - rest.length+a:Nat)):Int) from rfl] at hF
 obtain⟨R,hR⟩:∃ R,Go.Pl.recsF (text.length+1) (text.drop (text.length - rest.length+a)) ((text.length - rest.length+a:Nat):Int) [] []=R:=⟨_,rfl⟩
 rw [hR] at hF
 have hok:=fun h=>qyw g (rest.take a) text (text.length - rest.length+a) hl (by omega) (.a (.v .nilIface)) [(0,some (.cells 26 [.i g,.s (rest.take a),.tp 1,.tp 2,.s R.2.2.2])),(1,some (.tip 1 55 (R.2.1.map jf))),(2,some (.tip 1 3 (R.2.2.1.map fun x=>Iv x)))] 3 R hR (fun _=>⟨rfl,rfl,rfl⟩) h
 have hbad:=fun h=>qyw g (rest.take a) text (text.length - rest.length+a) hl (by omega) (.a (errA (.at' R.2.1.length 10))) [] 1 R hR h (fun _=>⟨rfl,rfl,rfl⟩)
 generalize itsE (rest.take a)=its at hpa
 cases hpe:jr (rest.take a) with
 |no=>
  rw [hpe] at hF hpa
  simp only at hF
  by_cases hR1:R.1=true
  ·rw [if_pos hR1] at hF
   rw [hF]
   apply qd []
   repeat' (first|apply And.intro|(intro h;try exact cDd)|exact⟨Tryz.call56⟩|refine cpe htk2 ?_|exact⟨Tryz.call57⟩|refine cpe hbg ?_|exact⟨Tryz.call58⟩|refine cpe hpa ?_|exact⟨Tryz.call59⟩|(refine jv (hbad fun h=>by rw [hR1] at h;simp at h) ?_)|exact cSd|apply qb []|refine exr ?_|refine qh ?_)
   all_goals exact congrArg Iv hsub
  ·rw [if_neg hR1] at hF
   rw [hF]
   apply qd []
   repeat' (first|apply And.intro|(intro h;try exact cDd)|exact⟨Tryz.call56⟩|refine cpe htk2 ?_|exact⟨Tryz.call57⟩|refine cpe hbg ?_|exact⟨Tryz.call58⟩|refine cpe hpa ?_|exact⟨Tryz.call59⟩|(refine jv (hok fun h=>absurd h hR1) ?_)|exact cSd|apply qb []|refine exr ?_|refine qh ?_)
   all_goals exact congrArg Iv hsub
 |num n=>
  rw [hpe] at hF hpa
  have hF2:vf text=(.num n,qam):=hF
  rw [hF2]
  apply qd []
  repeat' (first|apply And.intro|(intro h;try exact cDd)|exact⟨Tryz.call56⟩|refine cpe htk2 ?_|exact⟨Tryz.call57⟩|refine cpe hbg ?_|exact⟨Tryz.call58⟩|refine cpe hpa ?_|exact cSd|apply qb []|refine exr ?_|refine qh ?_)
 |at' p n=>
  rw [hpe] at hF hpa
  have hF2:vf text=(.at' p n,qam):=hF
  rw [hF2]
  apply qd []
  repeat' (first|apply And.intro|(intro h;try exact cDd)|exact⟨Tryz.call56⟩|refine cpe htk2 ?_|exact⟨Tryz.call57⟩|refine cpe hbg ?_|exact⟨Tryz.call58⟩|refine cpe hpa ?_|exact cSd|apply qb []|refine exr ?_|refine qh ?_)
theorem zbt (n:Int):(wz n).length≤100:=by
 unfold wz
 split
 ·rename_i h
  have:=qwi h
  omega
 ·simp
theorem za6 (b:ve) (st:List AObj) (hb:b.base.length<1000000) (he:b.ends.length<1000000):qo E 29 [yt b] st fun r st'=>r=Iv (qbw b)∧st'=st:=by
 have hh:=zbt b.gen
 have hle:=fun st=>zgl b.gen st
 refine zm [.a (yt b)] (qr _) Tryz.func29 rfl rfl (fun _=>rfl) rfl fun S0=>?_
 by_cases h0:b.ends=[]
 ·have e:qbw b=((wz b.gen).length:Int)+(b.base.length:Int):=by simp [qbw,h0]
  rw [e]
  have hl0:(b.ends.map fun x=>Iv x).length=0:=by simp [h0]
  apply qd []
  repeat' (first|apply And.intro|(intro h;try exact cDd)|exact⟨Tryz.call77⟩|refine cpe hle ?_|exact cSd|apply qb []|refine exr ?_|refine qh ?_)
 ·obtain⟨x,hx⟩:∃ x,b.ends.getLast? = some x:=by
   cases h:b.ends.getLast? with
   |none=>exact absurd (List.getLast?_eq_none_iff.1 h) h0
   |some x=>exact⟨x,rfl⟩
  have e:qbw b=x:=by simp [qbw,hx]
  rw [e]
  have hl0:0<b.ends.length:=List.length_pos_iff.2 h0
  have hml:(b.ends.map fun x=>Iv x).length=b.ends.length:=by simp
  have hg:(b.ends.map fun x=>Iv x)[b.ends.length - 1]? = some (Iv x):=by
   rw [List.getLast?_eq_getElem?] at hx
   simp [hx]
  apply qd []
  repeat' (first|apply And.intro|(intro h;try exact cDd)|exact⟨Tryz.call77⟩|refine cpe hle ?_|(refine Exists.intro (b.ends.length - 1) ⟨by omega,_,hg,?_⟩)|exact cSd|apply qb []|refine exr ?_|refine qh ?_)
theorem qwx:∀ r:List (List qs),r.length≤(x3 r).length
 | []=>by simp [x3]
 |b::r=>by
  have:=qwx r
  have h1:=q0t b
  rw [qd1]
  simp
  omega
structure zhg (text:qa) (b:ve):Prop where
 base:b.base.length<1000000
 tail:b.tail.length<1000000
 ends : b.ends.length < 1000000
 whole:qbw b=((yx b).length:Int)
 wlen:(yx b).length≤text.length
 size:qbw b+b.tail.length=text.length
theorem q18 {text:qa} {b:ve} (h:qba text b):zhg text b:=by
 have h1:=congrArg List.length h.split
 have h2:=h.len
 have h3:=qwx b.batches
 have h4:=h.whole
 simp only [List.length_append,yx] at h1
 refine⟨by omega,by omega,by rw [h.ends,qnw];omega,h4,by simp only [yx,List.length_append];omega,?_⟩
 rw [h4]
 simp only [yx,List.length_append]
 omega
theorem zf7 (text:qa) (x:List qs) (st:List AObj) (hl:text.length<1000000) (hB:∀ y∈x,EdB y) (hx:x.length<1000000):qo E 28 [Sv text,jf x] st fun r st'=>r = .tu [Sv (Go.Pl.appF text x).2,errA (Go.Pl.appF text x).1]∧st'=st:=by
 refine zm [.s text,.a (jf x)] (kf (qr _) (vn _)) Tryz.func28 rfl rfl (fun _=>rfl) rfl fun S0=>?_
 have hbr:=fun st=>qug text st hl
 unfold Go.Pl.appF
 have hbk:vf text=((vf text).1,(vf text).2):=rfl
 cases hbe:(vf text).1 with
 |no=>
  rw [hbe] at hbk
  have hT:=qql hbk
  have hS:=q18 hT
  obtain⟨hs1,hs2,hs3,hs4,hs5,hs6⟩:=hS
  rw [hbk] at hbr
  generalize (vf text).2=b at hbr hT hs1 hs2 hs3 hs4 hs5 hs6
  unfold qnr at hbr
  have hwh:=fun st=>za6 b st hs1 hs3
  rw [hs4] at hwh
  simp only [hs4,Int.toNat_natCast]
  have htl:=hT.len
  cases hee:eErr x with
  |no=>
   have hen:=fun st=>qv7 x st hB hee
   by_cases h5:50000<(encF x).length
   ·simp only [if_pos h5]
    apply qd []
    repeat' (first|apply And.intro|(intro h;try exact cDd)|exact⟨Tryz.call19⟩|refine cpe hbr ?_|exact⟨Tryz.call75⟩|refine cpe hen ?_|exact cSd|apply qb []|refine exr ?_|refine qh ?_)
   ·simp only [if_neg h5]
    have hgx:qho x:=⟨hee,hB,by omega⟩
    have hrc:=fun st=>q9e (encF x) st (by omega) hgx.good
    have hrl:=q6f hgx.good
    have hre:recF (encF x)=recE x:=rfl
    rw [hre] at hrc hrl
    by_cases h12:(120000:Int)<((yx b).length:Int)+((recE x).length:Int)
    ·rw [if_pos h12]
     apply qd []
     repeat' (first|apply And.intro|(intro h;try exact cDd)|exact⟨Tryz.call19⟩|refine cpe hbr ?_|exact⟨Tryz.call75⟩|refine cpe hen ?_|exact⟨Tryz.call76⟩|refine cpe hrc ?_|exact⟨Tryz.call29⟩|refine cpe hwh ?_|exact cSd|apply qb []|refine exr ?_|refine qh ?_)
    ·rw [if_neg h12]
     apply qd []
     repeat' (first|apply And.intro|(intro h;try exact cDd)|exact⟨Tryz.call19⟩|refine cpe hbr ?_|exact⟨Tryz.call75⟩|refine cpe hen ?_|exact⟨Tryz.call76⟩|refine cpe hrc ?_|exact⟨Tryz.call29⟩|refine cpe hwh ?_|exact cSd|apply qb []|refine exr ?_|refine qh ?_)
  |num n=>
   have hen:=fun st=>qjw x st _ hB (by omega) hee (fun h=>by have:=(qdb x).1 (by rw [hee];exact h);rw [hee] at this;simp at this)
   apply qd []
   repeat' (first|apply And.intro|(intro h;try exact cDd)|exact⟨Tryz.call19⟩|refine cpe hbr ?_|exact⟨Tryz.call75⟩|refine cpe hen ?_|exact cSd|apply qb []|refine exr ?_|refine qh ?_)
  |at' p n=>
   have hen:=fun st=>qjw x st _ hB (by omega) hee (fun h=>by have:=(qdb x).1 (by rw [hee];exact h);rw [hee] at this;simp at this)
   apply qd []
   repeat' (first|apply And.intro|(intro h;try exact cDd)|exact⟨Tryz.call19⟩|refine cpe hbr ?_|exact⟨Tryz.call75⟩|refine cpe hen ?_|exact cSd|apply qb []|refine exr ?_|refine qh ?_)
 |num n=>
  rw [hbe] at hbk
  rw [hbk] at hbr
  unfold qnr at hbr
  apply qd []
  repeat' (first|apply And.intro|(intro h;try exact cDd)|exact⟨Tryz.call19⟩|refine cpe hbr ?_|exact cSd|apply qb []|refine exr ?_|refine qh ?_)
 |at' p n=>
  rw [hbe] at hbk
  rw [hbk] at hbr
  unfold qnr at hbr
  apply qd []
  repeat' (first|apply And.intro|(intro h;try exact cDd)|exact⟨Tryz.call19⟩|refine cpe hbr ?_|exact cSd|apply qb []|refine exr ?_|refine qh ?_)
def cutL:List LnV→Int→Int
 | [],d=>d
 |x::r,d=>if begF x.text=true then (x.at':Int) else cutL r d
theorem q3m:∀ (n:Nat) (l:qa) (k a N:Nat),l.length≤n→(l=[]∨a+l.length=N)→cutL (vd k a l) N=((jc N l:Nat):Int)
 |n,l,k,a,N,hn,ha=>by
  by_cases h:l=[]
  ·subst h
   rw [qaj,qht]
   try rfl
  ·have hlt:=w9 (c:=10) h
   have hle:a+l.length=N:=ha.resolve_left h
   cases n with
   |zero=>omega
   |succ n=>
    rw [qak h,cutL]
    by_cases hb:begF (upto 10 l)=true
    ·rw [if_pos hb,qlu h hb]
     simp only
     omega
    ·rw [if_neg hb,qno h hb]
     refine q3m n (past 10 l) (k+1) _ N (by omega) ?_
     by_cases h10:10∈l
     ·right
      have e:=congrArg List.length (v7 h10)
      simp only [List.length_append,List.length_cons,List.length_nil] at e
      omega
     ·left
      unfold past
      rw [ww h10]
      exact List.drop_eq_nil_of_le (by omega)
theorem q06 (text:qa):∃ its,qbq text = .tu [xi its,Iv (jr text).pos,Iv (jr text).code]:=by
 unfold qbq jr
 split
 ·exact⟨[],rfl⟩
 ·rcases (jt text).1 with _ | ⟨a,n⟩
  ·exact⟨_,rfl⟩
  ·exact⟨[],rfl⟩
def qcu (x:ErrV×ve):AV:=.tu [yt x.2,Iv x.1.pos,Iv x.1.code]
theorem qxo (x:ErrV×ve):Pure (qcu x):=qal (qhu _) (qr _) (qr _)
theorem qmp:∀ (r:List (qa×Bool)) (i:Nat) (prev:Bool) (now:jj) (rec:Int) (out:List jj) (e:Int×Int),(refL i r prev now rec out).1=some e→e.2≠0
 | [],i,prev,now,rec,out,e,h=>by simp [refL] at h
 |(t,b)::r,i,prev,now,rec,out,e,h=>by
  rw [refL] at h
  split at h
  ·rename_i hw
   simp only [Option.some.injEq] at h
   subst h
   exact hw
  ·split at h
   ·exact qmp r _ _ _ _ _ e h
   ·split at h
    ·exact qmp r _ _ _ _ _ e h
    ·exact qmp r _ _ _ _ _ e h
theorem qmh {text:qa} {n:Int} (h:jr text = .num n):n=1:=by
 unfold jr at h
 split at h
 ·simpa using h.symm
 ·split at h <;> simp at h
theorem qoj {text:qa} {a n:Int} (h:jr text = .at' a n):n≠0:=by
 unfold jr at h
 split at h
 ·simp at h
 ·split at h
  ·simp at h
  ·rename_i a' n' hp
   simp only [ErrV.at'.injEq] at h
   rw [← h.2]
   have:=qku text
   exact qmp _ _ _ _ _ _ (a',n') (by rw [this];exact hp)
theorem qop (text:qa) (hl:text.length<1000000):∃ its p n,(∀ st,qo E 63 [Sv text] st fun r st'=>r = .tu [xi its,Iv p,Iv n]∧st'=st)∧p=(jr text).pos∧n=(jr text).code∧(n=0↔jr text = .no):=by
 obtain⟨its,hits⟩:=q06 text
 refine⟨its,_,_,fun st=>by rw [← hits];exact qoo text st hl,rfl,rfl,?_⟩
 cases hpe:jr text with
 |no=>simp [ErrV.code]
 |num n=>have:=qmh hpe;simp [ErrV.code];omega
 |at' a n=>have:=qoj hpe;simp [ErrV.code];omega
theorem q01 (x:Option (List qs)):∃ b o,qca x = .tu [jf b,Bv o]:=by
 cases x with
 |none=>exact⟨[],false,rfl⟩
 |some b=>exact⟨b,true,rfl⟩
set_option maxHeartbeats 1000000 in
theorem q22 (text:qa) (st:List AObj) (hl:text.length<1000000):qo E 20 [Sv text] st fun r st'=>r=qcu (vf text)∧st'=st:=by
 refine zm [.s text] (qxo _) Tryz.func20 rfl rfl (fun _=>rfl) rfl fun S0=>?_
 by_cases hbig:120000<text.length
 ·have e:vf text=(.num 1,qam):=if_pos hbig
  rw [e]
  apply qd []
  repeat' (first|apply And.intro|(intro h;try exact cDd)|exact cSd|apply qb []|refine exr ?_|refine qh ?_)
 have hsp:=qg3 text
 have hrl:(wb text).2.length≤text.length:=by
  conv=>rhs;rw [hsp.1]
  simp
 have hbl:=qnm (wb text).2
 obtain⟨g,rest,htk⟩:∃ g rest,wb text=(g,rest):=⟨_,_,rfl⟩
 have hF:vf text=match jr (rest.take (jc rest.length rest)) with
   | .no=>if (Go.Pl.recsF (text.length+1) (rest.drop (jc rest.length rest)) (((text.length - rest.length+jc rest.length rest:Nat)):Int) [] []).1=true then (.at' (Go.Pl.recsF (text.length+1) (rest.drop (jc rest.length rest)) (((text.length - rest.length+jc rest.length rest:Nat)):Int) [] []).2.1.length 10,qam)
    else (.no,⟨g,rest.take (jc rest.length rest),(Go.Pl.recsF (text.length+1) (rest.drop (jc rest.length rest)) (((text.length - rest.length+jc rest.length rest:Nat)):Int) [] []).2.1,(Go.Pl.recsF (text.length+1) (rest.drop (jc rest.length rest)) (((text.length - rest.length+jc rest.length rest:Nat)):Int) [] []).2.2.1,(Go.Pl.recsF (text.length+1) (rest.drop (jc rest.length rest)) (((text.length - rest.length+jc rest.length rest:Nat)):Int) [] []).2.2.2⟩)
   |e=>(e,qam):=by
  unfold vf
  rw [if_neg hbig]
  unfold qd0 qhs atH qc9
  rw [htk]
  try rfl
 have htk2:∀ st,qo E 60 [Sv text] st fun r st'=>r = .tu [Iv g,Sv rest]∧st'=st:=fun st=>by
  have:=q24 text st hl
  rw [htk] at this
  exact this
 rw [htk] at hrl hbl hsp
 simp only at hrl hbl hsp
 have hdr:rest.drop (jc rest.length rest)=text.drop (text.length - rest.length+jc rest.length rest):=by
  have h1:text.length=(wz g).length+rest.length:=by
   have:=congrArg List.length hsp.1
   simpa using this
  conv=>rhs;rhs;rw [hsp.1]
  rw [← List.drop_drop,show text.length - rest.length=(wz g).length by omega,List.drop_left]
 rw [hdr] at hF
 clear hdr hsp htk
 have hspl:=fun st=>qh7 rest st (by omega)
 have hcut:cutL (lns rest) rest.length=((jc rest.length rest:Nat):Int):=q3m _ rest 0 0 rest.length (Nat.le_refl _) (.inr (by omega))
 have hLl:(lns rest).length≤rest.length:=qch _ rest 0 0 (Nat.le_refl _)
 have hLv:∀ x∈lns rest,x.text.length≤rest.length:=fun x hx=>qs3 _ rest 0 0 (Nat.le_refl _) x hx
 generalize lns rest=L at hspl hcut hLl hLv
 generalize jc rest.length rest=a at hF hbl hcut
 have hml:(L.map lnA).length=L.length:=by simp
 apply qd []
 repeat' (first|apply And.intro|(intro h;try exact cDd)|exact⟨Tryz.call60⟩|refine cpe htk2 ?_|exact⟨Tryz.call61⟩|refine cpe hspl ?_|exact cSd|apply qb []|refine exr ?_|refine qh ?_)
 refine ji (X:=Nat) (fun k=>⟨[(0,.s text),(2,.bx 0 0),(5,.i g),(6,.s rest),(7,.a (lnsA L)),(8,.i (cutL (L.drop k) rest.length)),(9,.i ((k:Int) - 1))],[(0,some (.cells 32 [.i 0,.s [],.a zk,.a zk,.s []]))],1⟩) (fun k=>k≤L.length) (fun k=>k) L.length (Nat.le_refl _) ?_ ?_
 ·skip
  repeat' (first|apply And.intro|(intro h;try exact cDd)|exact cSd|apply qb []|refine exr ?_|refine qh ?_)
  all_goals first|(simp [cutL];done)
 ·intro k hk
  cases k with
  |succ j=>
   obtain⟨x,hx⟩:∃ x,L[j]? = some x:=⟨_,List.getElem?_eq_getElem (by omega)⟩
   have hgx:=qii hx
   have hxv:=hLv x (List.mem_of_getElem? hx)
   have hbe:=fun st=>q0y x.text st (by omega)
   have hdj:L.drop j=x::L.drop (j+1):=by
    obtain⟨hlt,e⟩:=List.getElem?_eq_some_iff.1 hx
    rw [List.drop_eq_getElem_cons hlt,e]
   apply qd []
   repeat' (first|apply And.intro|(intro h;try exact cDd)|exact⟨Tryz.call62⟩|refine cpe hbe ?_|(refine Exists.intro (j) ⟨by omega,_,hgx,?_⟩)|(refine Exists.intro j ⟨by omega,by omega,?_⟩)|exact cSd|apply qb []|refine exr ?_|refine qh ?_)
   all_goals first|(simp [hdj,cutL,begF, *];done)
  |zero=>
   have hc0:cutL (L.drop 0) rest.length=(a:Int):=by rw [List.drop_zero];exact hcut
   simp only [hc0]
   obtain⟨its,p,n,hpa,hp,hn,hn0⟩:=qop (rest.take a) (by simp;omega)
   have hsub:((text.length:Int) - (rest.length:Int))+(a:Int)=((text.length - rest.length+a:Nat):Int):=by omega
   by_cases hz:n=0
   ·rw [hn0.1 hz] at hF
    simp only at hF
    apply qd []
    repeat' (first|apply And.intro|(intro h;try exact cDd)|exact⟨Tryz.call63⟩|refine cpe hpa ?_|exact cSd|apply qb []|refine exr ?_|refine qh ?_)
    refine ji (X:=Nat×Nat×List (List qs)×List Int) (fun (k,f,bs,es)=>⟨[(0,.s text),(2,.bx 0 0),(10,.bx 1 0),(14,.i k)],
      [(0,some (.cells 32 [.i 0,.s [],.a zk,.a zk,.s []])),(1,some (.cells 32 [.i g,.s (rest.take a),.tp 2,.tp 3,.s []])),(2,some (.tip 1 55 (bs.map jf))),(3,some (.tip 1 3 (es.map fun x=>Iv x)))],4⟩)
     (fun (k,f,bs,es)=>k≤text.length∧text.length - k<f∧Go.Pl.recsF f (text.drop k) k bs es=Go.Pl.recsF (text.length+1) (text.drop (text.length - rest.length+a)) ((text.length - rest.length+a:Nat):Int) [] []∧bs.length≤k∧es.length≤k) (fun x=>text.length - x.1) (text.length - rest.length+a,text.length+1,[],[])
     ⟨by omega,by omega,rfl,by simp,by simp⟩ ?_ ?_
    ·skip
     repeat' (first|apply And.intro|(intro h;try exact cDd)|exact cSd|apply qb []|refine exr ?_|refine qh ?_)
     all_goals first|(simp [hsub];done)
    ·rintro⟨k,f,bs,es⟩ ⟨hk,hf,hR,hbl2,hel⟩
     generalize Go.Pl.recsF (text.length+1) (text.drop (text.length - rest.length+a)) ((text.length - rest.length+a:Nat):Int) [] []=R at hF hR
     obtain⟨f,rfl⟩:∃ f',f=f'+1:=⟨f - 1,by omega⟩
     have hrd:=fun st=>q9n (text.drop k) st (by simp;omega)
     have hll:(text.drop k).length=text.length - k:=by simp
     have hbd:=qm8 (l:=text.drop k)
     have hde:=fun st=>q2x (ze (text.drop k)).2.1 st (by omega)
     rcases qtg (text.drop k) with h1|h2|h3
     ·rw [h1] at hrd
      obtain⟨n',hn',hn0',hnl⟩:=qwu h1
      cases hdd:decF (ze (text.drop k)).2.1 with
      |none=>
       rw [qwv h1 hdd] at hR
       rw [hdd] at hde
       rw [← hR] at hF
       rw [hF]
       apply qd []
       repeat' (first|apply And.intro|(intro h;try exact cDd)|exact⟨Tryz.call64⟩|refine cpe hrd ?_|exact⟨Tryz.call65⟩|refine cpe hde ?_|exact cSd|apply qb []|refine exr ?_|refine qh ?_)
       all_goals first|(simp [qcu,qam,ErrV.pos,ErrV.code];done)|(rw [← hR,List.drop_drop,Int.natCast_add];done)|(rw [← hR,List.drop_drop,Int.natCast_add];rfl)
      |some b=>
       rw [qti h1 hdd hn'] at hR
       rw [hdd] at hde
       rw [hn'] at hrd
       apply qd []
       repeat' (first|apply And.intro|(intro h;try exact cDd)|exact⟨Tryz.call64⟩|refine cpe hrd ?_|exact⟨Tryz.call65⟩|refine cpe hde ?_|(refine Exists.intro (k+n',f,bs++[b],es++[((k+n':Nat):Int)]) ⟨?_,by simp only;omega,?_⟩)|exact cSd|apply qb []|refine exr ?_|refine qh ?_)
       all_goals first|(simp [qcu,qam,ErrV.pos,ErrV.code];done)|(rw [← hR,List.drop_drop,Int.natCast_add];done)|(rw [← hR,List.drop_drop,Int.natCast_add];rfl)
     ·rw [h2] at hrd
      rw [qtj h2] at hR
      rw [← hR] at hF
      rw [hF]
      apply qd []
      repeat' (first|apply And.intro|(intro h;try exact cDd)|exact⟨Tryz.call64⟩|refine cpe hrd ?_|exact⟨Tryz.call65⟩|refine cpe hde ?_|exact cSd|apply qb []|refine exr ?_|refine qh ?_)
      all_goals first|(simp [qcu,qam,ErrV.pos,ErrV.code];done)|(rw [← hR,List.drop_drop,Int.natCast_add];done)|(rw [← hR,List.drop_drop,Int.natCast_add];rfl)
     ·rw [h3] at hrd
      rw [qww h3] at hR
      rw [← hR] at hF
      rw [hF]
      obtain⟨b',o',hbo⟩:=q01 (decF (ze (text.drop k)).2.1)
      rw [hbo] at hde
      apply qd []
      repeat' (first|apply And.intro|(intro h;try exact cDd)|exact⟨Tryz.call64⟩|refine cpe hrd ?_|exact⟨Tryz.call65⟩|refine cpe hde ?_|exact cSd|apply qb []|refine exr ?_|refine qh ?_)
      all_goals first|(simp [qcu,qam,ErrV.pos,ErrV.code];done)|(rw [← hR,List.drop_drop,Int.natCast_add];done)|(rw [← hR,List.drop_drop,Int.natCast_add];rfl)
   ·have e:vf text=(jr (rest.take a),qam):=by
     rw [hF]
     cases hpe:jr (rest.take a) with
     |no=>exact absurd (hn0.2 hpe) hz
     | _=>rfl
    rw [e]
    unfold qcu
    simp only
    rw [← hp,← hn]
    apply qd []
    repeat' (first|apply And.intro|(intro h;try exact cDd)|exact⟨Tryz.call63⟩|refine cpe hpa ?_|exact cSd|apply qb []|refine exr ?_|refine qh ?_)
    all_goals first|(simp [qcu,qam,ErrV.pos,ErrV.code];done)|(rw [← hR,List.drop_drop,Int.natCast_add];done)|(rw [← hR,List.drop_drop,Int.natCast_add];rfl)
theorem q47 {text:qa} (h:(vf text).1≠.no):(vf text).1.code≠0:=by
 unfold vf at h ⊢
 split
 ·simp [ErrV.code]
 ·rename_i hb
  rw [if_neg hb] at h
  cases hpe:jr (qhs text) with
  |no=>
   rw [hpe] at h
   simp only at h ⊢
   split
   ·simp [ErrV.code]
   ·rename_i hr
    rw [if_neg hr] at h
    exact absurd rfl h
  |num n=>have:=qmh hpe;simp [ErrV.code];omega
  |at' a n=>have:=qoj hpe;simpa [ErrV.code] using this
theorem zem (x:List qs):∃ p n,(eErr x).pos=p∧(eErr x).code=n∧(n=0↔eErr x = .no):=⟨_,_,rfl,rfl,qdb x⟩
end Go.Proofs.YtmoklbacdkmkaaaGreatDoor
namespace Go.Pl
open Go Go.Proofs
structure EntV where
 x:jj
 id:Int
structure q9 where
 ents:List EntV
 next:Int
 many:Int
def qaf (l:q9) (x:jj):q9:=if x.kind=3 then⟨l.ents++[⟨x,l.next⟩],l.next+1,l.many+1⟩ else⟨l.ents++[⟨x,0⟩],l.next,l.many⟩
def ofF (its:List jj):q9:=its.foldl qaf ⟨[],1,0⟩
end Go.Pl
namespace Go.Proofs.YtmoklbacdkmkaaaGreatDoor
open Go Go.Av Go.RowKit Go.Proofs Go.Pl
@[reducible] def entA (e : EntV) : AV := .ag [Iv e.x.kind, Sv e.x.raw, jq e.x.fields, Iv e.id]
@[reducible] def vw (l : q9) : AV := .pp [.sl 4 (l.ents.map entA) none, Iv l.next, Iv l.many]
def qs2 (e:ErrV) (l:q9):AV:=match e with
 | .no=>.tu [vw l,errA .no]
 |e=>.tu [.v (.pointer none),errA e]
theorem qsj (e:EntV):qlj (entA e):=fun y hy=>by
 simp only [AV.cells,List.mem_cons,List.not_mem_nil,or_false] at hy
 rcases hy with rfl|rfl|rfl|rfl
 ·exact qr _
 ·exact qr _
 ·exact qbk _
 ·exact qr _
theorem qh2 (l:q9):Pure (vw l):=quz fun x hx=>by
 simp only [List.mem_cons,List.not_mem_nil,or_false] at hx
 rcases hx with rfl|rfl|rfl
 ·exact qa9 fun x hx=>by
   obtain⟨f,_,rfl⟩:=List.mem_map.1 hx
   exact qsj f
 ·exact qr _
 ·exact qr _
theorem qkr (e:ErrV) (l:q9):Pure (qs2 e l):=by
 cases e with
 |no=>exact kf (qh2 l) (vn _)
 |num n=>exact kf (qr _) (vn _)
 |at' a n=>exact kf (qr _) (vn _)
theorem qh9:∀ (n:Nat) (rest:qa) (k:Nat) (p:PSt),rest.length≤n→PB (4 * k) p→k+rest.length≤60000→(runL k (zq rest) p).2.items.length≤300000:=by
 have nil:∀ (k:Nat) (p:PSt),PB (4 * k) p→k≤60000→(runL k (zq []) p).2.items.length≤300000:=fun k p hB hk=>by
  have e:jp p 0 [] true 1=endP p:=rfl
  have h:=qjg (no:=0) (text:=[]) (ended:=true) (kind:=1) hB (by omega) (by simp)
  rw [e] at h
  have e2:runL k (zq []) p=endP p:=by rw [vt];rfl
  rw [e2]
  have:=h.items
  omega
 intro n
 induction n with
 |zero=>
  intro rest k p hr hB hk
  obtain rfl:rest=[]:=List.eq_nil_of_length_eq_zero (by omega)
  exact nil k p hB (by simpa using hk)
 |succ n ih=>
  intro rest k p hr hB hk
  by_cases hne:rest=[]
  ·subst hne
   exact nil k p hB (by simpa using hk)
  ·have hu:=ko 10 rest
   have hpl:=kp 10 rest
   have hr0:0<rest.length:=List.length_pos_iff.2 hne
   rw [wp hne]
   simp only [runL]
   have hB2:=qrf (no:=k) (text:=upto 10 rest) (ended:=decide (10∈rest)) hB (by omega) (by omega)
   split
   ·have:=hB.items
    simp only
    omega
   ·exact ih (past 10 rest) (k+1) _ (by omega) hB2 (by omega)
theorem qq0 (text:qa):(itsE text).length≤300000:=by
 unfold itsE
 split
 ·simp
 ·have h:=qh9 text.length text 0 p0 (Nat.le_refl _) q58 (by omega)
  unfold jt
  split
  ·simp
  ·exact h
theorem zb2 (text:qa) (st:List AObj) (hl:text.length<1000000):qo E 87 [Sv text] st fun r st'=>r=qs2 (jr text) (ofF (itsE text))∧st'=st:=by
 refine qq7 [.s text] (qkr _ _) Tryz.func87 rfl rfl (fun _=>rfl) rfl fun S0=>?_
 have hp:=fun st=>qw3 text st hl
 have hil:=qq0 text
 generalize itsE text=its at hp hil
 cases he:jr text with
 |num n=>
  rw [he] at hp
  apply qd [19]
  repeat' (first|apply And.intro|(intro h;try exact cDd)|exact⟨Tryz.call58⟩|refine cpe hp ?_|exact cSd|apply qb [19]|refine exr ?_|refine qh ?_)
 |at' a n=>
  rw [he] at hp
  apply qd [19]
  repeat' (first|apply And.intro|(intro h;try exact cDd)|exact⟨Tryz.call58⟩|refine cpe hp ?_|exact cSd|apply qb [19]|refine exr ?_|refine qh ?_)
 |no=>
  rw [he] at hp
  apply qd [19]
  repeat' (first|apply And.intro|(intro h;try exact cDd)|exact⟨Tryz.call58⟩|refine cpe hp ?_|exact cSd|apply qb [19]|refine exr ?_|refine qh ?_)
  refine ji (X:=Nat×q9) (fun (k,l)=>⟨[(6,.bx 0 0),(20,.a (xi its)),(21,.i its.length),(22,.i k)],[(0,some (.cells 112 [.tp 1,.i l.next,.i l.many])),(1,some (.tip 4 139 (l.ents.map entA)))],2⟩)
   (fun (k,l)=>k≤its.length∧l.ents.length=k∧(1≤l.next∧l.next≤k+1∧0≤l.many∧l.many≤k)∧(its.drop k).foldl qaf l=ofF its) (fun (k,l)=>its.length - k) (0,⟨[],1,0⟩) ⟨by omega,rfl,⟨by decide,by decide,by decide,by decide⟩,rfl⟩ ?_ ?_
  ·skip
   repeat' (first|apply And.intro|(intro h;try exact cDd)|exact cSd|apply qb []|refine exr ?_|refine qh ?_)
   all_goals (simp;done)
  ·rintro⟨k,l⟩ ⟨hk,hlk,hnx,hrun⟩
   by_cases hkn:k<its.length
   ·have hx:its[k]? = some its[k]:=List.getElem?_eq_getElem hkn
    have hxm:(its.map wg)[k]? = some (wg its[k]):=by rw [List.getElem?_map,hx];rfl
    rw [List.drop_eq_getElem_cons hkn,List.foldl_cons] at hrun
    have hml:(l.ents.map entA).length=l.ents.length:=by simp
    generalize its[k]=x at hx hxm hrun
    by_cases hk3:x.kind=3
    ·have e:qaf l x=⟨l.ents++[⟨x,l.next⟩],l.next+1,l.many+1⟩:=if_pos hk3
     rw [e] at hrun
     apply qd []
     repeat' (first|apply And.intro|(intro h;try exact cDd)|(refine Exists.intro (k) ⟨by omega,_,hxm,?_⟩)|(refine Exists.intro (k+1,⟨l.ents++[⟨x,l.next⟩],l.next+1,l.many+1⟩) ⟨⟨by omega,by simp [hlk],by simp only;omega,hrun⟩,by simp only;omega,?_⟩)|exact cSd|apply qb []|refine exr ?_|refine qh ?_)
     all_goals (simp;done)
    ·have e:qaf l x=⟨l.ents++[⟨x,0⟩],l.next,l.many⟩:=if_neg hk3
     rw [e] at hrun
     apply qd []
     repeat' (first|apply And.intro|(intro h;try exact cDd)|(refine Exists.intro (k) ⟨by omega,_,hxm,?_⟩)|(refine Exists.intro (k+1,⟨l.ents++[⟨x,0⟩],l.next,l.many⟩) ⟨⟨by omega,by simp [hlk],by simp only;omega,hrun⟩,by simp only;omega,?_⟩)|exact cSd|apply qb []|refine exr ?_|refine qh ?_)
     all_goals (simp;done)
   ·have hkn:k=its.length:=by omega
    subst hkn
    rw [List.drop_length] at hrun
    have e:ofF its=l:=hrun.symm
    rw [e]
    apply qd []
    repeat' (first|apply And.intro|(intro h;try exact cDd)|exact cSd|apply qb []|refine exr ?_|refine qh ?_)
end Go.Proofs.YtmoklbacdkmkaaaGreatDoor
namespace Go.Av
open Go Go.RowKit
theorem qkh {E:Env} {rd:Option Nat} {N:Nat} {ops:Array Oper} {K:AS→Prop} {s:AS} {rest:List Oper} {d:Option Tmp} {T:TypeId} {p:String} {af:Array Edge} {x:Operand} {t t' te:TypeId} {sz:Nat} {xs:List AV} {tip:Option Nat} (hx:ql N s x = .sl sz xs tip) (hu:E.P.underlying t=some (.slice te))
  (h1:xs=[]→AOps E rd N ops rest K (s.put d (Bv true))) (h2:AOps E rd N ops rest K (s.put d (Bv false))):AOps E rd N ops (⟨d,.binOp .eql t x (.const (.slice none 0 0)) t',T,p,af,none⟩::rest) K s:=by
 refine zb rfl (za nofun fun B0 w0 G a w _ hI=>?_)
 have he:=hI.eval_of hx
 have key:∃ q n c,a.eval x = .slice q n c∧(q.isNone=true→xs=[]):=by
  generalize a.eval x=u at he
  cases he with
  |sl0=>exact⟨_,_,_,rfl,fun _=>rfl⟩
  |sl=>exact⟨_,_,_,rfl,fun h=>by simp at h⟩
 obtain⟨q,n,c,hv,hq0⟩:=key
 have hc:a.eval (.const (.slice none 0 0)) = .slice none 0 0:=rfl
 have hq:=Lib.run_eql_slice_nil (P:=E.P) w t te q n c 0 0 hu
 refine⟨_,w,G,.v (.bool q.isNone),s.st,?_,.refl G,hI.agree,.v _,?_⟩
 ·generalize a.eval = ρ at hv hc
  simp [execOp,hv,hc,eqGuard_at_slice,hq]
 ·cases hb:q.isNone with
  |true=>exact h1 (hq0 hb)
  |false=>exact h2
theorem qd8.len0 {c:AV} (h:qd8 c):∀ (G:Gh) (v:Value),Rel G c v→∃ b n cp,v = .slice b n cp∧n≤cp:=fun G v hv=>by
 obtain⟨base,rfl⟩:=h.val G v hv
 exact⟨_,_,_,rfl,Nat.le_refl _⟩
end Go.Av
namespace Go.Proofs.YtmoklbacdkmkaaaGreatDoor
open Go Go.Av Go.RowKit Go.Proofs Go.Pl
theorem q5b (fs:List Fld) (st:List AObj) (hl:fs.length<1000000):qo E 80 [jq fs] st fun r st'=>r=jq fs∧st'=st:=by
 refine qv (qbk _) (qp Tryz.func80 rfl (Nat.le_of_ble_eq_true rfl) ?_)
 have hml:(fs.map fldA).length=fs.length:=by simp
 rw [List.append_nil]
 repeat' (first|(apply qck (st:=st);(iterate 6 exact rfl))|(apply qkh;exact rfl;exact rfl;intro h0)|apply qm|apply qe|apply qg|apply qj|apply qf|(apply qc;exact rfl;apply cd_t;exact cRa)|(apply qc;exact rfl;apply cd_f;exact cRa)|apply qu|apply qt|(apply qin (b:=st.length) (xs:=[]) (ys:=fs.map fldA) (bytes:=32);(iterate 5 exact rfl);exact⟨⟨_,_,rfl,rfl,rfl,rfl,rfl⟩⟩;(focus (repeat' (first|assumption|exact q1p _ _ _ _|exact q4i _ _ _ _ _ _ _|apply qri|apply qw7|(refine qae (T:=_) (ver:=_) (cs:=_) ?_)|exact xp|exact jl rfl|apply kh|apply va|omega|apply qb0)));(exact qgh);(first|exact rfl|exact qcj fun _=>rfl);((simp [maxLen];omega));((simp;omega));intro c' S' t1 g1 g2 g3 g4))
 ·exact qn rfl (wr (q6 rfl) (fun G v h=>by
   rw [jq,h0]
   exact qbs h)) ⟨rfl,_,(List.append_nil st).symm⟩
 ·exact qn rfl (wr (q6 rfl) (qmq g1)) ⟨rfl,qup fun j hj=>(g2.same j (by omega) (Nat.lt_of_lt_of_le hj qgh)).trans (List.getElem?_append_left hj)⟩
theorem q5a (es:List EntV) (st:List AObj) (hl:es.length<1000000):qo E 130 [.sl 4 (es.map entA) none] st fun r st'=>OwnR 4 139 (es.map entA) st (.v undef) r st':=by
 refine qp Tryz.func130 rfl (Nat.le_of_ble_eq_true rfl) ?_
 have hml:(es.map entA).length=es.length:=by simp
 rw [List.append_nil]
 by_cases he:es=[]
 ·subst he
  repeat' (first|(apply qck (st:=st);(iterate 6 exact rfl))|(apply qkh;exact rfl;exact rfl;intro h0)|(apply qnf (c:=.os st.length 0 0 0 0);exact rfl;exact (qoc _ _ _).len0;exact fun _ _ h=>h;exact rfl;exact rfl;exact⟨⟨_,_,rfl,rfl,rfl,rfl,rfl⟩⟩)|apply qm|apply qe|apply qg|apply qj|apply qf|(apply qc;exact rfl;apply cd_t;exact cRa)|(apply qc;exact rfl;apply cd_f;exact cRa)|apply qu|apply qt)
  ·exact qn rfl (q6 rfl) ⟨.inl ⟨rfl,q0b none⟩,Nat.le_refl _,fun _ _ _=>rfl,fun o ho=>by
   have ho:(none:Option Nat)=some o:=ho
   simp at ho⟩
  ·exact qn rfl (q6 rfl) ⟨.inl ⟨rfl,qoc _ _ _⟩,qgh,fun j hj _=>List.getElem?_append_left hj,fun o ho=>by
   have ho:(none:Option Nat)=some o:=ho
   simp at ho⟩
 ·have hne:es.map entA≠[]:=by simpa using he
  repeat' (first|(apply qck (st:=st);(iterate 6 exact rfl))|(apply qkh;exact rfl;exact rfl;intro h0)|(refine qet (ys:=es.map entA) (bytes:=56) (qoc _ _ _).val (fun _ _ h=>h) rfl rfl ⟨⟨_,_,rfl,rfl,rfl,rfl,rfl⟩⟩ (qcj fun _=>rfl) hne (by simp [maxLen];omega) (by simp;omega) fun cap pad q1 q2 q3 q4=>?_)|apply qm|apply qe|apply qg|apply qj|apply qf|(apply qc;exact rfl;apply cd_t;exact cRa)|(apply qc;exact rfl;apply cd_f;exact cRa)|apply qu|apply qt)
  ·exact absurd h0 hne
  ·refine qn rfl (q6 rfl) ⟨.inr ⟨_,0,cap,pad,rfl,xp,q1,q2,q3,q4⟩,Nat.le_trans qgh qgh,fun j hj _=>?_,fun o ho=>?_⟩
   ·show ((st++[_])++[_])[j]? = _
    rw [List.getElem?_append_left (by simp;omega),List.getElem?_append_left hj]
   ·have ho':some (st++[AObj.cells 0 139 []]).length=some o:=ho
    simp only [Option.some.injEq] at ho'
    left
    rw [← ho']
    simp
end Go.Proofs.YtmoklbacdkmkaaaGreatDoor
namespace Go.Pl
open Go Go.Proofs
def wc (id:Int):Nat→List EntV→Int
 | _,[]=> -1
 |k,e::r=>if e.id=id then (k:Int) else wc id (k+1) r
def atF (l:q9) (id:Int):Int:=if id<1 then -1 else wc id 0 l.ents
theorem qsu (id:Int):∀ (es:List EntV) (k:Nat),wc id k es = -1∨∃ i e,wc id k es=((k+i:Nat):Int)∧es[i]? = some e∧e.id=id
 | [],k=>.inl rfl
 |e::r,k=>by
  unfold wc
  by_cases h:e.id=id
  ·rw [if_pos h]
   exact .inr ⟨0,e,by simp,rfl,h⟩
  ·rw [if_neg h]
   rcases qsu id r (k+1) with g | ⟨i,e',g1,g2,g3⟩
   ·exact .inl g
   ·exact .inr ⟨i+1,e',by rw [g1];congr 1;omega,by simpa using g2,g3⟩
theorem qeb (l:q9) (id:Int):atF l id = -1∨∃ (i:Nat) (e:EntV),atF l id=(i:Int)∧l.ents[i]? = some e∧e.id=id∧1≤id:=by
 unfold atF
 by_cases h:id<1
 ·exact .inl (if_pos h)
 ·rw [if_neg h]
  rcases qsu id l.ents 0 with g | ⟨i,e,g1,g2,g3⟩
  ·exact .inl g
  ·exact .inr ⟨i,e,by rw [g1];congr 1;omega,g2,g3,by omega⟩
def rawF (l:q9) (id:Int):qa×Bool:=match l.ents[(atF l id).toNat]? with
 |some e=>if atF l id<0 then ([],false) else (e.x.raw,true)
 |none=>([],false)
end Go.Pl
namespace Go.Proofs.YtmoklbacdkmkaaaGreatDoor
open Go Go.Av Go.RowKit Go.Proofs Go.Pl
theorem zdg (e:EntV) (id:Int) (st:List AObj):qo E 128 [entA e,.pp [Iv id]] st fun r st'=>r=Bv (decide (e.id=id))∧st'=st:=by
 refine zm [.a (entA e),.a (.pp [Iv id])] (qr _) Tryz.func128 rfl rfl (fun _=>rfl) rfl fun S0=>?_
 apply qd []
 repeat' (first|apply And.intro|(intro h;try exact cDd)|exact cSd|apply qb []|refine exr ?_|refine qh ?_)
@[reducible] def atFn (id : Int) : SV := .fn (.func 128) [] [.a (.pp [Iv id])]
theorem zes (es:List EntV) (id:Int) (st:List AObj) (hl:es.length<1000000):qo E 127 [.sl 4 (es.map entA) none,.fn (.func 128) [] [.pp [Iv id]]] st fun r st'=>r=Iv (wc id 0 es)∧st'=st:=by
 refine zm [.a (.sl 4 (es.map entA) none),atFn id] (qr _) Tryz.func127 rfl rfl (fun _=>rfl) rfl fun S0=>?_
 apply qd []
 repeat' (first|apply And.intro|(intro h;try exact cDd)|exact cSd|apply qb []|refine exr ?_|refine qh ?_)
 refine ji (X:=Nat) (fun k=>⟨[(0,.a (.sl 4 (es.map entA) none)),(1,atFn id),(7,.i es.length),(8,.i k)],[],0⟩) (fun k=>k≤es.length∧wc id k (es.drop k)=wc id 0 es) (fun k=>es.length - k) 0 ⟨by omega,by simp⟩ ?_ ?_
 ·skip
  repeat' (first|apply And.intro|(intro h;try exact cDd)|exact cSd|apply qb []|refine exr ?_|refine qh ?_)
  all_goals (simp;done)
 ·rintro k ⟨hk,hrun⟩
  by_cases hkn:k<es.length
  ·have hx:es[k]? = some es[k]:=List.getElem?_eq_getElem hkn
   have hxm:(es.map entA)[k]? = some (entA es[k]):=by rw [List.getElem?_map,hx];rfl
   rw [List.drop_eq_getElem_cons hkn,wc] at hrun
   generalize es[k]=e at hx hxm hrun
   have h1:=fun st=>zdg e id st
   by_cases hid:e.id=id
   ·rw [if_pos hid] at hrun
    rw [decide_eq_true hid] at h1
    rw [← hrun]
    apply qd []
    repeat' (first|apply And.intro|(intro h;try exact cDd)|(refine Exists.intro (k) ⟨by omega,_,hxm,?_⟩)|exact⟨Tryz.call128⟩|refine cpe h1 ?_|exact cSd|apply qb []|refine exr ?_|refine qh ?_)
   ·rw [if_neg hid] at hrun
    rw [decide_eq_false hid] at h1
    apply qd []
    repeat' (first|apply And.intro|(intro h;try exact cDd)|(refine Exists.intro (k) ⟨by omega,_,hxm,?_⟩)|exact⟨Tryz.call128⟩|refine cpe h1 ?_|(refine Exists.intro (k+1) ⟨⟨by omega,hrun⟩,by omega,?_⟩)|exact cSd|apply qb []|refine exr ?_|refine qh ?_)
  ·have hkn:k=es.length:=by omega
   subst hkn
   rw [List.drop_length,wc] at hrun
   rw [← hrun]
   apply qd []
   repeat' (first|apply And.intro|(intro h;try exact cDd)|exact cSd|apply qb []|refine exr ?_|refine qh ?_)
theorem at_c (l:q9) (id:Int) (st:List AObj) (hl:l.ents.length<1000000):qo E 69 [vw l,Iv id] st fun r st'=>r=Iv (atF l id)∧st'=st:=by
 refine zm [.a (vw l),.i id] (qr _) Tryz.func69 rfl rfl (fun _=>rfl) rfl fun S0=>?_
 unfold atF
 have h1:=fun st=>zes l.ents id st hl
 by_cases h:id<1
 ·rw [if_pos h]
  apply qd []
  repeat' (first|apply And.intro|(intro h;try exact cDd)|exact cSd|apply qb []|refine exr ?_|refine qh ?_)
 ·rw [if_neg h]
  apply qd []
  repeat' (first|apply And.intro|(intro h;try exact cDd)|exact⟨Tryz.call127⟩|refine cpe h1 ?_|exact cSd|apply qb []|refine exr ?_|refine qh ?_)
theorem zdn (l:q9) (id:Int) (st:List AObj) (hl:l.ents.length<1000000):qo E 25 [vw l,Iv id] st fun r st'=>r = .tu [Sv (rawF l id).1,Bv (rawF l id).2]∧st'=st:=by
 refine zm [.a (vw l),.i id] (kf (qr _) (qr _)) Tryz.func25 rfl rfl (fun _=>rfl) rfl fun S0=>?_
 have h1:=fun st=>at_c l id st hl
 unfold rawF
 rcases qeb l id with h | ⟨i,e,h,he,hid,h1'⟩
 ·rw [h] at h1 ⊢
  have e1:(match l.ents[(-1:Int).toNat]? with|some e=>if (-1:Int)<0 then (([]:qa),false) else (e.x.raw,true)|none=>([],false))=([],false):=by split <;> rfl
  rw [e1]
  apply qd []
  repeat' (first|apply And.intro|(intro h;try exact cDd)|exact⟨Tryz.call69⟩|refine cpe h1 ?_|exact cSd|apply qb []|refine exr ?_|refine qh ?_)
 ·rw [h] at h1 ⊢
  have hm:(l.ents.map entA)[i]? = some (entA e):=by rw [List.getElem?_map,he];rfl
  have e1:(match l.ents[((i:Int)).toNat]? with|some e=>if (i:Int)<0 then (([]:qa),false) else (e.x.raw,true)|none=>([],false))=(e.x.raw,true):=by
   rw [Int.toNat_natCast,he]
   exact if_neg (by omega)
  rw [e1]
  apply qd []
  repeat' (first|apply And.intro|(intro h;try exact cDd)|(refine Exists.intro (i) ⟨by omega,_,hm,?_⟩)|exact⟨Tryz.call69⟩|refine cpe h1 ?_|exact cSd|apply qb []|refine exr ?_|refine qh ?_)
theorem zgu (l:q9) (st:List AObj):qo E 50 [vw l] st fun r st'=>r=Iv l.many∧st'=st:=by
 refine zm [.a (vw l)] (qr _) Tryz.func50 rfl rfl (fun _=>rfl) rfl fun S0=>?_
 apply qd []
 repeat' (first|apply And.intro|(intro h;try exact cDd)|exact cSd|apply qb []|refine exr ?_|refine qh ?_)
theorem ze1 (l:q9) (st:List AObj):qo E 18 [vw l] st fun r st'=>r=Iv l.next∧st'=st:=by
 refine zm [.a (vw l)] (qr _) Tryz.func18 rfl rfl (fun _=>rfl) rfl fun S0=>?_
 apply qd []
 repeat' (first|apply And.intro|(intro h;try exact cDd)|exact cSd|apply qb []|refine exr ?_|refine qh ?_)
@[reducible] def lstH (a : Nat) (l : q9) : List (Nat × Option SR) := [(0, some (.cells 112 [.tp a, .i l.next, .i l.many])), (a, some (.own 4 139 (l.ents.map entA)))]
theorem zbu (es:List EntV) (id:Int) (hl:es.length<1000000):v4 E 127 [.tp 0,atFn id] 1 (hpF [(0,some (.own 4 139 (es.map entA)))]) ⟨.i (wc id 0 es),vv [(0,some (.own 4 139 (es.map entA)))],[(0,some (.own 4 139 (es.map entA)))]++wj [(0,some (.own 4 139 (es.map entA)))],1⟩:=by
 refine x8 [.tp 0,atFn id] [(0,some (.own 4 139 (es.map entA)))] 1 (.i (wc id 0 es)) [(0,some (.own 4 139 (es.map entA)))] 1 Tryz.func127 rfl rfl rfl rfl fun S F ρ=>?_
 have hml:(es.map entA).length=es.length:=by simp
 apply qd []
 repeat' (first|apply And.intro|(intro h;try exact cDd)|exact cSd|apply qb []|refine exr ?_|refine qh ?_)
 refine ji (X:=Nat) (fun k=>⟨[(0,.tp 0),(1,atFn id),(7,.i es.length),(8,.i k)],[(0,some (.own 4 139 (es.map entA)))],1⟩) (fun k=>k≤es.length∧wc id k (es.drop k)=wc id 0 es) (fun k=>es.length - k) 0 ⟨by omega,by simp⟩ ?_ ?_
 ·skip
  repeat' (first|apply And.intro|(intro h;try exact cDd)|exact cSd|apply qb []|refine exr ?_|refine qh ?_)
  all_goals (simp;done)
 ·rintro k ⟨hk,hrun⟩
  by_cases hkn:k<es.length
  ·have hx:es[k]? = some es[k]:=List.getElem?_eq_getElem hkn
   have hxm:(es.map entA)[k]? = some (entA es[k]):=by rw [List.getElem?_map,hx];rfl
   rw [List.drop_eq_getElem_cons hkn,wc] at hrun
   generalize es[k]=e at hx hxm hrun
   have h1:=fun st=>zdg e id st
   by_cases hid:e.id=id
   ·rw [if_pos hid] at hrun
    rw [decide_eq_true hid] at h1
    rw [← hrun]
    apply qd []
    repeat' (first|apply And.intro|(intro h;try exact cDd)|(refine qgi (i:=k) rfl rfl rfl rfl rfl rfl (by omega) ?_)|(refine qi3 (i:=k) (j:=0) rfl rfl rfl rfl hxm rfl rfl ?_)|exact⟨Tryz.call128⟩|refine cpe h1 ?_|exact cSd|apply qb []|refine exr ?_|refine qh ?_)
   ·rw [if_neg hid] at hrun
    rw [decide_eq_false hid] at h1
    apply qd []
    repeat' (first|apply And.intro|(intro h;try exact cDd)|(refine qgi (i:=k) rfl rfl rfl rfl rfl rfl (by omega) ?_)|(refine qi3 (i:=k) (j:=0) rfl rfl rfl rfl hxm rfl rfl ?_)|exact⟨Tryz.call128⟩|refine cpe h1 ?_|(refine Exists.intro (k+1) ⟨⟨by omega,hrun⟩,by omega,?_⟩)|exact cSd|apply qb []|refine exr ?_|refine qh ?_)
  ·have hkn:k=es.length:=by omega
   subst hkn
   rw [List.drop_length,wc] at hrun
   rw [← hrun]
   apply qd []
   repeat' (first|apply And.intro|(intro h;try exact cDd)|exact cSd|apply qb []|refine exr ?_|refine qh ?_)
theorem qub (l:q9) (id:Int) (hl:l.ents.length<1000000):v4 E 69 [.bx 0 0,.i id] 2 (hpF (lstH 1 l)) ⟨.i (atF l id),vv (lstH 1 l),lstH 1 l++wj (lstH 1 l),2⟩:=by
 refine x8 [.bx 0 0,.i id] (lstH 1 l) 2 (.i (atF l id)) (lstH 1 l) 2 Tryz.func69 rfl rfl rfl rfl fun S F ρ=>?_
 unfold atF
 have h1:=zbu l.ents id hl
 by_cases h:id<1
 ·rw [if_pos h]
  apply qd []
  repeat' (first|apply And.intro|(intro h;try exact cDd)|exact cSd|apply qb []|refine exr ?_|refine qh ?_)
 ·rw [if_neg h]
  apply qd []
  repeat' (first|apply And.intro|(intro h;try exact cDd)|exact⟨Tryz.call127⟩|(refine jv h1 ?_)|exact cSd|apply qb []|refine exr ?_|refine qh ?_)
end Go.Proofs.YtmoklbacdkmkaaaGreatDoor
namespace Go.Pl
open Go Go.Proofs
def qu8 (fs:List Fld):qa:=if jx fs = .no then zo fs else []
def qbo (fs:List Fld):jj:=if jx fs = .no then⟨3,zo fs,fs⟩ else⟨0,[],[]⟩
def qct (its:List jj):qa:=its.flatMap fun x=>x.raw
theorem qws (a b:List jj):qct (a++b)=qct a++qct b:=by simp [qct]
theorem qwt (x:jj):qct [x]=x.raw:=by simp [qct]
end Go.Pl
namespace Go.Proofs.YtmoklbacdkmkaaaGreatDoor
open Go Go.Av Go.RowKit Go.Proofs Go.Pl
theorem q9a (fs:List Fld) (st:List AObj) (hK:KeyB fs) (hl:fs.length<9223372036854775808):qo E 227 [jq fs] st fun r st'=>r = .tu [Sv (qu8 fs),errA (jx fs)]∧st'=st:=by
 refine zm [.a (jq fs)] (kf (qr _) (vn _)) Tryz.func227 rfl rfl (fun _=>rfl) rfl fun S0=>?_
 unfold qu8
 cases he:jx fs with
 |no=>
  rw [if_pos rfl]
  have h1:=fun st=>qmk fs st _ he hK hl
  obtain⟨_,h3,h4⟩:=qft he
  have h2:=fun st=>qsp fs st h3 h4
  apply qd []
  repeat' (first|apply And.intro|(intro h;try exact cDd)|exact⟨Tryz.call185⟩|refine cpe h1 ?_|exact⟨Tryz.call135⟩|refine cpe h2 ?_|exact cSd|apply qb []|refine exr ?_|refine qh ?_)
 |num n=>
  rw [if_neg (by simp)]
  have h1:=fun st=>qmk fs st _ he hK hl
  apply qd []
  repeat' (first|apply And.intro|(intro h;try exact cDd)|exact⟨Tryz.call185⟩|refine cpe h1 ?_|exact cSd|apply qb []|refine exr ?_|refine qh ?_)
 |at' a n=>
  rw [if_neg (by simp)]
  have h1:=fun st=>qmk fs st _ he hK hl
  apply qd []
  repeat' (first|apply And.intro|(intro h;try exact cDd)|exact⟨Tryz.call185⟩|refine cpe h1 ?_|exact cSd|apply qb []|refine exr ?_|refine qh ?_)
theorem q39 (fs:List Fld) (st:List AObj) (hK:KeyB fs) (hl:fs.length<1000000):qo E 186 [jq fs] st fun r st'=>r = .tu [wg (qbo fs),errA (jx fs)]∧st'=st:=by
 refine zm [.a (jq fs)] (kf (qa8 (qkn _)) (vn _)) Tryz.func186 rfl rfl (fun _=>rfl) rfl fun S0=>?_
 have h1:=fun st=>q9a fs st hK (by omega)
 have h2:=fun st=>q5b fs st hl
 unfold qu8 at h1
 unfold qbo
 cases he:jx fs with
 |no=>
  rw [he,if_pos rfl] at h1
  rw [if_pos rfl]
  apply qd []
  repeat' (first|apply And.intro|(intro h;try exact cDd)|exact⟨Tryz.call227⟩|refine cpe h1 ?_|exact⟨Tryz.call80⟩|refine cpe h2 ?_|exact cSd|apply qb []|refine exr ?_|refine qh ?_)
 |num n=>
  rw [he,if_neg (by simp)] at h1
  rw [if_neg (by simp)]
  apply qd []
  repeat' (first|apply And.intro|(intro h;try exact cDd)|exact⟨Tryz.call227⟩|refine cpe h1 ?_|exact cSd|apply qb []|refine exr ?_|refine qh ?_)
 |at' a n=>
  rw [he,if_neg (by simp)] at h1
  rw [if_neg (by simp)]
  apply qd []
  repeat' (first|apply And.intro|(intro h;try exact cDd)|exact⟨Tryz.call227⟩|refine cpe h1 ?_|exact cSd|apply qb []|refine exr ?_|refine qh ?_)
theorem qis (es:List EntV):∀ x∈es.map entA,x.cells.length=4:=fun x hx=>by
 obtain⟨e,_,rfl⟩:=List.mem_map.1 hx
 rfl
theorem qdc (es:List EntV):(flat (es.map entA)).length=es.length * 4:=by
 rw [zr (qis es),List.length_map]
theorem qg8 (a b:List EntV):flat ((a++b).map entA)=flat (a.map entA)++flat (b.map entA):=by rw [List.map_append,xu]
theorem qd6 (A B xs:List AV) {off:Nat} (h:A.length=off):zv (A++B) off xs=A++xs++B.drop xs.length:=by
 unfold zv
 rw [← h,List.take_left,List.drop_append,List.drop_eq_nil_of_le (by omega)]
 simp
theorem qia {cs xs:List AV} {off:Nat} (h:off+xs.length≤cs.length):(zv cs off xs).length=cs.length:=by
 unfold zv
 simp
 omega
theorem zha (es:List EntV) (i:Nat) (hi:i<es.length) (hl:es.length<1000000) (st:List AObj) (c:AV) (hc:OwnS st 4 139 (es.map entA) c):qo E 187 [c,Iv i,Iv ((i:Int)+1)] st fun r st'=>OwnR 4 139 ((es.take i++es.drop (i+1)).map entA) st c r st':=by
 have hml:(es.map entA).length=es.length:=by simp
 rcases hc with⟨h0,_⟩ | ⟨o,ver,cap,pad,rfl,e2,e3,e4,e5,e6⟩
 ·rw [h0] at hml
  simp at hml
  omega
 rw [hml] at e5 ⊢
 have hlt:=lt_of_getElem? e2
 have hfl:=qdc es
 have hsplit:flat (es.map entA)++pad=flat ((es.take i).map entA)++(flat ((es.drop i).map entA)++pad):=by
  rw [← List.append_assoc,← qg8,List.take_append_drop]
 have ht4:(flat ((es.take i).map entA)).length=i * 4:=by rw [qdc,List.length_take,Nat.min_eq_left (by omega)]
 have hd4:(flat ((es.drop (i+1)).map entA)).length=(es.length - (i+1)) * 4:=by rw [qdc,List.length_drop]
 obtain⟨B1,hB1⟩:∃ B1,(flat ((es.drop i).map entA)++pad).drop (flat ((es.drop (i+1)).map entA)).length=B1:=⟨_,rfl⟩
 have hsp:zv (flat (es.map entA)++pad) (i * 4) (flat ((es.drop (i+1)).map entA))=flat ((es.take i++es.drop (i+1)).map entA)++B1:=by
  rw [hsplit,qd6 _ _ _ ht4,qg8,hB1]
 have hsl:(flat ((es.take i++es.drop (i+1)).map entA)++B1).length=(cap+1) * 4:=by
  rw [← hsp,qia (by rw [e3,hd4];omega),e3]
 have hel:(es.take i++es.drop (i+1)).length=es.length - 1:=by simp;omega
 -- what is appended
 obtain⟨q,hq⟩:∃ q,(if cap+1=i+1 then 0 else 0+(i+1) * 4)=q:=⟨_,rfl⟩
 have hqz:((flat (es.map entA)++pad).drop q).take ((es.length - (i+1)) * 4)=flat ((es.drop (i+1)).map entA)∧q+(es.length - (i+1)) * 4≤(flat (es.map entA)++pad).length:=by
  rw [e3]
  by_cases hci:cap+1=i+1
  ·have:es.length - (i+1)=0:=by omega
   rw [if_pos hci] at hq
   rw [this,← hq,List.drop_eq_nil_of_le (by omega:es.length≤i+1)]
   exact⟨by simp [flat],by omega⟩
  ·rw [if_neg hci] at hq
   rw [← hq]
   refine⟨?_,by omega⟩
   have e:flat (es.map entA)++pad=flat ((es.take (i+1)).map entA)++(flat ((es.drop (i+1)).map entA)++pad):=by
    rw [← List.append_assoc,← qg8,List.take_append_drop]
   have e':(flat ((es.take (i+1)).map entA)).length=0+(i+1) * 4:=by rw [qdc,List.length_take,Nat.min_eq_left (by omega)];omega
   rw [e,← e',List.drop_left,← hd4,List.take_left]
 have hsrc:SrcA st 4 (.os o ver q (es.length - (i+1)) (cap+1 - (i+1))) (es.length - (i+1)) (es.length - (i+1)) (flat ((es.drop (i+1)).map entA)):=by
  have:=SrcA.os (st:=st) (sz:=4) o ver q (es.length - (i+1)) (cap+1 - (i+1)) (es.length - (i+1)) _ _ e2 hqz.2 (by rw [hqz.1];exact qcj fun _=>rfl)
  rw [hqz.1] at this
  exact this
 refine qp Tryz.func187 rfl (Nat.le_of_ble_eq_true rfl) ?_
 rw [List.append_nil]
 repeat' (first|(refine z0 (sz:=4) (i:=i) (j:=i+1) (m:=es.length) rfl rfl rfl ?_ ?_ ?_ ?_ ?_ ?_ ?_;exact⟨_,rfl⟩;exact⟨_,rfl⟩;exact⟨_,rfl⟩;omega;omega;omega)|apply qm|apply qe|apply qg|apply qj|apply qf|(apply qq;(iterate 3 exact rfl))|(apply qc;exact rfl;apply ku;exact cAo)|(apply zy;(iterate 4 exact rfl))|apply qu)
 refine quc (fun s=>StA [(0,.os o ver 0 (i+(es.length - (i+1))) (cap+1)),(7,Iv es.length)] (st.set o (.cells ver 139 (flat ((es.take i++es.drop (i+1)).map entA)++B1))) [] s) ?_ ?_
 ·refine qjn rfl rfl ?_
  (apply yn 0;exact rfl;kernel_rfl;kernel_rfl;kernel_rfl;exact rfl;exact qah)
  (apply yn 1;exact rfl;kernel_rfl;kernel_rfl;kernel_rfl;exact rfl;exact qah)
  (apply yn 3;exact rfl;kernel_rfl;kernel_rfl;kernel_rfl;exact rfl;exact qah)
  (apply yn 4;exact rfl;kernel_rfl;kernel_rfl;kernel_rfl;exact rfl;exact qah)
  refine wx [2,5] (by kernel_rfl) rfl ⟨⟨_,rfl,?_⟩,⟨_,rfl,?_⟩,trivial⟩
  ·(refine z0 (sz:=4) (i:=0) (j:=i) (m:=cap+1) rfl rfl rfl ?_ ?_ ?_ ?_ ?_ ?_ ?_;exact rfl;exact⟨_,rfl⟩;exact rfl;omega;omega;omega)
   apply qg
   refine wx [5] (by kernel_rfl) rfl ⟨⟨_,rfl,?_⟩,trivial⟩
   (refine z0 (sz:=4) (i:=i+1) (j:=es.length) (m:=cap+1) rfl rfl rfl ?_ ?_ ?_ ?_ ?_ ?_ ?_;exact⟨_,rfl⟩;exact⟨rfl,rfl⟩;exact rfl;omega;omega;omega;rw [hq])
   apply qg
   refine wx [6] (by kernel_rfl) rfl ⟨⟨_,rfl,?_⟩,trivial⟩
   (refine qmz (bytes:=56) (o:=o) (ver:=ver) (n:=i) (cap:=cap+1) (m:=es.length - (i+1)) (cs:=flat (es.map entA)++pad) rfl rfl e2 hsrc rfl rfl ⟨⟨_,_,rfl,rfl,rfl,rfl,rfl⟩⟩ (by omega) e3 ?_;rw [hsp])
   apply qg
   (apply yn 7;exact rfl;kernel_rfl;kernel_rfl;kernel_rfl;exact rfl;exact qvq)
   refine qcx (by kernel_rfl) ?_
   exact ja ⟨rfl,rfl,trivial⟩
  ·(refine z0 (sz:=4) (i:=i+1) (j:=es.length) (m:=cap+1) rfl rfl rfl ?_ ?_ ?_ ?_ ?_ ?_ ?_;exact⟨_,rfl⟩;exact⟨rfl,rfl⟩;exact rfl;omega;omega;omega;rw [hq])
   apply qg
   refine wx [2] (by kernel_rfl) rfl ⟨⟨_,rfl,?_⟩,trivial⟩
   (refine z0 (sz:=4) (i:=0) (j:=i) (m:=cap+1) rfl rfl rfl ?_ ?_ ?_ ?_ ?_ ?_ ?_;exact rfl;exact⟨_,rfl⟩;exact rfl;omega;omega;omega)
   apply qg
   refine wx [6] (by kernel_rfl) rfl ⟨⟨_,rfl,?_⟩,trivial⟩
   (refine qmz (bytes:=56) (o:=o) (ver:=ver) (n:=i) (cap:=cap+1) (m:=es.length - (i+1)) (cs:=flat (es.map entA)++pad) rfl rfl e2 hsrc rfl rfl ⟨⟨_,_,rfl,rfl,rfl,rfl,rfl⟩⟩ (by omega) e3 ?_;rw [hsp])
   apply qg
   (apply yn 7;exact rfl;kernel_rfl;kernel_rfl;kernel_rfl;exact rfl;exact qvq)
   refine qcx (by kernel_rfl) ?_
   exact ja ⟨rfl,rfl,trivial⟩
 ·rintro _ ⟨t,rfl⟩
  have hob:(st.set o (AObj.cells ver 139 (flat ((es.take i++es.drop (i+1)).map entA)++B1)))[o]? = some (.cells ver 139 (flat ((es.take i++es.drop (i+1)).map entA)++B1)):=kh e2
  have hqq:(if cap+1=i+(es.length - (i+1)) then 0 else 0+(i+(es.length - (i+1))) * 4)=(es.length - 1) * 4:=by
   rw [if_neg (by omega)]
   omega
  have hfe:(flat ((es.take i++es.drop (i+1)).map entA)).length=(es.length - 1) * 4:=by rw [qdc,hel]
  repeat' (first|(refine z0 (sz:=4) (i:=i+(es.length - (i+1))) (j:=es.length) (m:=cap+1) rfl rfl rfl ?_ ?_ ?_ ?_ ?_ ?_ ?_;exact⟨_,rfl⟩;exact⟨_,rfl⟩;exact rfl;omega;omega;omega;rw [hqq])|(refine qyh (sz:=4) (bytes:=56) rfl hob rfl ⟨⟨_,_,rfl,rfl,rfl,rfl,rfl⟩⟩ rfl (by rw [hsl];omega) fun zs hz=>?_)|apply qm|apply qe|apply qg|apply qj|apply qf|(apply zy;(iterate 4 exact rfl))|apply qt)
  refine qn rfl (q6 rfl) ?_
  show OwnR 4 139 _ st _ (.os o ver 0 (i+(es.length - (i+1))) (cap+1)) ((st.set o _).set o (.cells ver 139 (zv (flat ((es.take i++es.drop (i+1)).map entA)++B1) ((es.length - 1) * 4) zs)))
  rw [List.set_set,qd6 _ _ _ hfe,List.append_assoc]
  have hB1l:(es.length - 1) * 4+B1.length=(cap+1) * 4:=by rw [← hfe,← List.length_append];exact hsl
  have hzl:zs.length=4:=by rw [hz];omega
  refine⟨.inr ⟨o,ver,cap,zs++B1.drop zs.length,?_,kh e2,?_,qis _,?_,e6⟩,by simp,fun j hj hne=>List.getElem?_set_ne fun e=>hne (by rw [e];rfl),fun o' ho'=>.inr ho'⟩
  ·rw [List.length_map,hel]
   congr 1
   omega
  ·rw [List.length_append,List.length_append,List.length_drop,hfe,hzl]
   omega
  ·rw [List.length_map,hel]
   omega
theorem zfp (e:EntV) (st:List AObj) (c:AV) (hnr:qd8 c):qo E 188 [c,Iv 0,.sl 4 [entA e] none] st fun r st'=>OwnR 4 139 [entA e] st c r st':=by
 refine qp Tryz.func188 rfl (Nat.le_of_ble_eq_true rfl) ?_
 rw [List.append_nil]
 repeat' (first|(apply zy (n:=1);(iterate 4 exact rfl))|(refine qyl (sz:=4) rfl hnr.val rfl rfl ?_ ?_;exact⟨_,rfl⟩)|(apply zy;exact rfl;exact hnr.len;exact rfl;exact rfl)|(refine qet (sz:=4) (ys:=[entA e]) (bytes:=56) hnr.val (fun _ _ h=>h) rfl rfl ⟨⟨_,_,rfl,rfl,rfl,rfl,rfl⟩⟩ rfl (by simp) (by simp [maxLen]) (by simp) fun cap pad q1 q2 q3 q4=>?_)|apply qm|apply qe|apply qg|apply qj|apply qf|(apply qq;(iterate 3 exact rfl))|(apply qc;exact rfl;apply kz;exact cAo)|(apply qc;exact rfl;apply ku;exact cAo)|apply qu|apply qt)
 refine qn rfl (q6 rfl) ?_
 show OwnR 4 139 _ st c (.os st.length 0 0 _ (cap+1)) (st++[_])
 refine⟨.inr ⟨_,0,cap,pad,rfl,xp,q1,q2,q3,q4⟩,qgh,fun j hj _=>List.getElem?_append_left hj,fun o ho=>?_⟩
 simp only [zp,Option.some.injEq] at ho
 left
 omega
theorem zfq (es:List EntV) (e:EntV) (hl:es.length<1000000) (st:List AObj) (o ver cap:Nat) (pad:List AV) (e2:st[o]? = some (.cells ver 139 (flat (es.map entA)++pad))) (e3:(flat (es.map entA)++pad).length=(cap+1) * 4) (e5:es.length≤cap+1) (e6:cap+1≤maxLen) :
  qo E 188 [.os o ver 0 es.length (cap+1),Iv es.length,.sl 4 [entA e] none] st fun r st'=>OwnR 4 139 (es.map entA++[entA e]) st (.os o ver 0 es.length (cap+1)) r st':=by
 have hml:(es.map entA).length=es.length:=by simp
 have hlt:=lt_of_getElem? e2
 have hV0:Vec 4 139 o (es.map entA) (.os o ver 0 es.length (cap+1)) (.cells ver 139 (flat (es.map entA)++pad)):=by
  have:=Vec.os (o:=o) (T:=139) (xs:=es.map entA) ver (cap+1) pad e3 (qis _) (by omega) e6
  rw [hml] at this
  exact this
 refine qp Tryz.func188 rfl (Nat.le_of_ble_eq_true rfl) ?_
 rw [List.append_nil]
 repeat' (first|(apply zy (n:=1);(iterate 4 exact rfl))|(refine z0 (sz:=4) (i:=es.length) (j:=es.length) (m:=cap+1) rfl rfl rfl ?_ ?_ ?_ ?_ ?_ ?_ ?_;exact⟨_,rfl⟩;exact⟨rfl,rfl⟩;exact rfl;omega;omega;omega)|(refine qm0 (sz:=4) (bytes:=56) (o:=o) (xs:=es.map entA) (ys:=[entA e]) rfl (fun _ _ h=>h) hV0 e2 rfl rfl ⟨⟨_,_,rfl,rfl,rfl,rfl,rfl⟩⟩ rfl (by simp [maxLen];omega) (by simp;omega) fun a' ob' hV=>?_)|apply qm|apply qe|apply qg|apply qj|apply qf|(apply qq;(iterate 3 exact rfl))|(apply qc;exact rfl;apply kz;exact cAo)|(apply qc;exact rfl;apply ku;exact cAo)|(apply zy;(iterate 4 exact rfl))|apply qu|apply qt)
 rcases q1t hV with⟨q,_,_⟩ | ⟨ver',cap',pad',rfl,rfl,q1,q2,q3,q4⟩
 ·simp at q
 ·obtain⟨cap',rfl⟩:∃ c,cap'=c+1:=⟨cap' - 1,by simp at q3;omega⟩
  refine qn rfl (q6 rfl) ?_
  show OwnR 4 139 _ st _ (.os o ver' 0 _ (cap'+1)) (st.set o _)
  exact⟨.inr ⟨o,ver',cap',pad',rfl,kh e2,q1,q2,q3,q4⟩,by simp,fun j hj hne=>List.getElem?_set_ne fun e=>hne (by rw [e];rfl),fun o' ho'=>.inr ho'⟩
theorem q0n (w:World) (a b:Addr) (la ca lb cb:Nat) (tA tB:TypeId) (kA kB:Nat) (h1:a.block≠b.block) (h2:w.shape? a.block=some (tA,kA)) (h3:w.shape? b.block=some (tB,kB)) (h4:kA≠0) (h5:w.frozen? b=false) (h6:w.frozen? { block:=b.block,off:=kB }=false) :
  (callFunc 228 #[.slice (some a) la ca,.slice (some b) lb cb]).run E.P w = .ok (.value (.bool false)) w:=by
 have hz:∀ w,(Go.sizeOf 139).run E.P w = .ok 4 w:=fun w=>(vc (agg:=true) rfl w).1
 rw [run_callFunc_extern (P:=E.P) Tryz.func228 (by kernel_rfl) (by kernel_rfl) (by kernel_rfl) (e:=Extern.SlicesOverlaps.overlaps #[110,110] #[4]) (by kernel_rfl),
  qrb w 110 4 139 rfl 4 hz a b la ca lb cb h1 tA tB kA kB h2 h3 h4 h5 h6]
 rfl
structure InsB (es:List EntV) (e:EntV) (i cap:Nat) (pad:List AV):Prop where
 t4:(flat ((es.take i).map entA)).length=i * 4
 d4:(flat ((es.drop i).map entA)).length=(es.length - i) * 4
 split:flat (es.map entA)++pad=flat ((es.take i).map entA)++(flat ((es.drop i).map entA)++pad)
 take:(flat (es.map entA)++pad).take (i * 4)=flat ((es.take i).map entA)
 drop:((flat (es.map entA)++pad).drop (0+i * 4)).take ((es.length - i) * 4)=flat ((es.drop i).map entA)
 new:flat ((es.take i++e::es.drop i).map entA)=flat ((es.take i).map entA)++flat [entA e]++flat ((es.drop i).map entA)
 nl:(es.take i++e::es.drop i).length=es.length+1
 src:∀ o ver L c' (S:List AObj),(flat (es.map entA)++pad).length=(cap+1) * 4→es.length≤cap+1→S[o]? = some (.cells ver 139 (flat (es.map entA)++pad))→SrcA S 4 (.os o ver (0+i * 4) L c') L (es.length - i) (flat ((es.drop i).map entA))
theorem insB (es:List EntV) (e:EntV) (i cap:Nat) (pad:List AV) (hi:i<es.length):InsB es e i cap pad:=by
 have ht4:(flat ((es.take i).map entA)).length=i * 4:=by rw [qdc,List.length_take,Nat.min_eq_left (by omega)]
 have hd4:(flat ((es.drop i).map entA)).length=(es.length - i) * 4:=by rw [qdc,List.length_drop]
 have hsplit:flat (es.map entA)++pad=flat ((es.take i).map entA)++(flat ((es.drop i).map entA)++pad):=by
  rw [← List.append_assoc,← qg8,List.take_append_drop]
 have hdrop:((flat (es.map entA)++pad).drop (0+i * 4)).take ((es.length - i) * 4)=flat ((es.drop i).map entA):=by rw [Nat.zero_add,hsplit,← ht4,List.drop_left,← hd4,List.take_left]
 refine⟨ht4,hd4,hsplit,by rw [hsplit,← ht4,List.take_left],hdrop,?_,by simp;omega,fun o ver L c' S e3 e5 hS=>?_⟩
 ·rw [qg8]
  simp [flat]
 ·have:=SrcA.os (st:=S) (sz:=4) o ver (0+i * 4) L c' (es.length - i) _ _ hS (by rw [e3];omega) (by rw [hdrop];exact qcj fun _=>rfl)
  rw [hdrop] at this
  exact this
set_option maxHeartbeats 4000000 in
theorem zfs (es:List EntV) (e:EntV) (i:Nat) (hi:i<es.length) (hl:es.length<1000000) (st:List AObj) (o ver cap:Nat) (pad:List AV) (e2:st[o]? = some (.cells ver 139 (flat (es.map entA)++pad))) (e3:(flat (es.map entA)++pad).length=(cap+1) * 4) (e5:es.length+1≤cap+1) (e6:cap+1≤maxLen) :
  qo E 188 [.os o ver 0 es.length (cap+1),Iv i,.sl 4 [entA e] none] st fun r st'=>OwnR 4 139 ((es.take i++e::es.drop i).map entA) st (.os o ver 0 es.length (cap+1)) r st':=by
 have hI:=insB es e i cap pad hi
 have hlt:=lt_of_getElem? e2
 have hfl1:(flat [entA e]).length=4:=rfl
 have ht4:=hI.t4
 have hd4:=hI.d4
 have hi1:(if cap+1=i then 0 else 0+i * 4)=0+i * 4:=if_neg (by omega)
 have hi2:(if cap+1=i+1 then 0 else 0+(i+1) * 4)=(i+1) * 4:=by rw [if_neg (by omega)];omega
 obtain⟨B1,hB1⟩:∃ B1,(flat ((es.drop i).map entA)++pad).drop 4=B1:=⟨_,rfl⟩
 obtain⟨A1,hA1⟩:∃ A1,(flat ((es.drop i).map entA)++pad).take 4=A1:=⟨_,rfl⟩
 have hA1l:A1.length=4:=by
  rw [← hA1,List.length_take,List.length_append,hd4]
  omega
 obtain⟨X1,hX1⟩:∃ X1,flat ((es.take i).map entA)++A1++flat ((es.drop i).map entA)++B1.drop ((es.length - i) * 4)=X1:=⟨_,rfl⟩
 have hsp1:zv (flat (es.map entA)++pad) ((i+1) * 4) (flat ((es.drop i).map entA))=X1:=by
  have e1:flat (es.map entA)++pad=(flat ((es.take i).map entA)++A1)++B1:=by rw [hI.split,List.append_assoc,← hA1,← hB1,List.take_append_drop]
  rw [e1,qd6 _ _ _ (by rw [List.length_append,ht4,hA1l];omega),hd4,hX1]
 have hsp2:zv X1 (0+i * 4) (flat [entA e])=flat ((es.take i++e::es.drop i).map entA)++B1.drop ((es.length - i) * 4):=by
  have e1:X1=flat ((es.take i).map entA)++(A1++(flat ((es.drop i).map entA)++B1.drop ((es.length - i) * 4))):=by rw [← hX1];simp
  rw [e1,qd6 _ _ _ (by rw [ht4];omega),hfl1,List.drop_append_of_le_length (by omega),List.drop_eq_nil_of_le (by omega:A1.length≤4),hI.new]
  simp
 have hsl1:X1.length=(cap+1) * 4:=by
  rw [← hsp1,qia (by rw [e3,hd4];omega),e3]
 have hsl2:(flat ((es.take i++e::es.drop i).map entA)++B1.drop ((es.length - i) * 4)).length=(cap+1) * 4:=by
  rw [← hsp2,qia (by rw [hsl1,hfl1];omega),hsl1]
 have hsrc:=hI.src o ver (es.length+1 - i) (cap+1 - i) st e3 (by omega) e2
 have hnl:=hI.nl
 generalize hXn:flat ((es.take i++e::es.drop i).map entA)++B1.drop ((es.length - i) * 4)=Xn at hsp2 hsl2
 clear hX1 hB1 hA1 hI ht4 hd4
 generalize hdz:flat ((es.drop i).map entA)=dz at hsp1 hsrc
 refine qp Tryz.func188 rfl (Nat.le_of_ble_eq_true rfl) ?_
 rw [List.append_nil]
 generalize flat (es.map entA)++pad=X0 at e2 e3 hsp1
 repeat' (first|apply qm|apply qe|apply qg|apply qj|apply qf)
 refine z0 (o:=o) (ver:=ver) (off:=0) (len:=es.length) (cap:=cap+1) (sz:=4) (i:=i) (j:=es.length) (m:=cap+1) rfl rfl rfl ?_ ?_ ?_ (by omega) (by omega) (by omega) ?_
 ·exact⟨_,rfl⟩
 ·exact⟨rfl,rfl⟩
 ·exact rfl
 repeat' (first|(apply zy (n:=1);(iterate 4 exact rfl))|apply qm|apply qe|apply qg|apply qj|apply qf|(apply qq;(iterate 3 exact rfl))|(apply qc;exact rfl;apply ku;exact cAo)|(apply zy;(iterate 4 exact rfl))|(apply zh;exact rfl;exact rfl;exact qz (by omega) (by omega))|apply qu)
 refine qrr rfl rfl rfl ?_
 repeat' (first|apply qm|apply qe|apply qg|apply qj|(apply qq;(iterate 3 exact rfl))|(apply qc;exact rfl;apply ku;exact cAo)|(apply zh;exact rfl;exact rfl;exact qz (by omega) (by omega))|apply qu)
 refine z0 (o:=o) (ver:=ver) (off:=0) (len:=es.length) (cap:=cap+1) (sz:=4) (i:=0) (j:=es.length+1) (m:=cap+1) rfl rfl rfl ?_ ?_ ?_ (by omega) (by omega) (by omega) ?_
 ·exact rfl
 ·exact⟨_,rfl⟩
 ·exact rfl
 repeat' (first|apply qm|apply qe|apply qg|apply qj|apply qf|(apply zh;exact rfl;exact rfl;exact qz (by omega) (by omega)))
 refine z0 (o:=o) (ver:=ver) (off:=0) (len:=es.length+1) (cap:=cap+1) (sz:=4) (i:=i+1) (j:=es.length+1) (m:=cap+1) rfl rfl rfl ?_ ?_ ?_ (by omega) (by omega) (by omega) ?_
 ·exact⟨_,rfl⟩
 ·exact⟨rfl,rfl⟩
 ·exact rfl
 rw [hi2]
 repeat' (first|(apply zbi;first|apply qm|apply qx|apply qe|(apply qc;exact rfl;apply kz;exact cAo)|(apply qc;exact rfl;apply ku;exact cAo)|(apply qc;exact rfl;apply qjr;exact cRa)|(apply qc;exact rfl;apply qhv;exact cRa)|(apply qc;exact rfl;apply cd_n <;> intro h)|(apply qc;exact rfl;apply cd_t;exact cRa)|(apply qc;exact rfl;apply cd_f;exact cRa)|(apply qc;exact rfl;apply cd_d <;> intro h)|(apply qc;exact rfl;apply cd_s <;> intro h)|apply qu|apply zz|apply qt)|(apply q5k;first|(apply qw;(iterate 4 exact rfl))|(apply qay;(iterate 4 exact rfl)))|(apply zel;first|(apply wu;exact cAo)|(apply vj;exact cAo)|(apply vo;exact cAo)|(apply xf;exact cAo)|(apply qwc;exact cRa)|(apply qaq;exact cRa)|(apply qbl;exact cRa)|(apply qsq;exact cRa)|(apply qhz <;> intro h)|(apply qbz;exact cRa)|(apply qgf;exact cRa)|(apply qar;exact cRa)|(apply yq;exact cRa)|(apply jk <;> intro h)|(apply qgg <;> intro h))|(apply zek;first|apply qip|(apply q3f;(iterate 4 exact rfl))|(apply q7c;exact rfl;exact rfl;exact qz (by omega) (by omega))|(apply q3h;(iterate 4 exact rfl);exact cAs;exact cAs)|(apply qpn;(iterate 5 exact rfl))|(apply qjk;exact rfl;exact rfl;exact cOs)|(apply qlp;(iterate 3 exact rfl))|(apply qpm;(iterate 5 exact rfl))|(apply qjl;(iterate 4 exact rfl))|(apply qrz;(iterate 3 exact rfl))|(apply q7b;(iterate 3 exact rfl);exact cAs)|(apply q3g;exact rfl;exact rfl)|(apply qyo;exact rfl;exact rfl)|(apply qyp;(iterate 3 exact rfl);omega)|(apply qvo;(iterate 3 exact rfl))|apply qf9|apply qjj|(apply qyn;exact rfl;exact rfl;exact qz (by omega) (by omega))|(apply zdy;(iterate 3 exact rfl))|(apply qt8;(iterate 3 exact rfl);exact cAs)|(apply qt7;(iterate 3 exact rfl);exact cAs)|(apply qry;exact rfl;exact rfl))|(apply q5j;first|(apply qq;(iterate 3 exact rfl))|(apply jh;(iterate 3 exact rfl))|(apply z7;exact rfl;exact rfl;exact cOs)|(apply zh;exact rfl;exact rfl;exact qz (by omega) (by omega))|(apply xc;exact rfl;exact rfl;exact qz (by omega) (by omega))|(apply wn;exact rfl;exact rfl)|(apply vl;exact rfl;exact rfl)|(apply qhc;exact rfl;exact rfl)|(apply qhe;exact rfl;exact rfl)|(apply qcv;(iterate 3 exact rfl))|(apply qm2;(iterate 3 exact rfl))|(apply qdr;exact rfl;exact rfl;(first|exact j6 _|exact rfl);first|exact j6 _|exact rfl)|(apply qln;exact rfl;exact rfl;(first|exact j6 _|exact rfl);first|exact j6 _|exact rfl)|(apply q69;exact rfl;exact rfl;(first|exact j6 _|exact rfl);first|exact j6 _|exact rfl)|(apply qfp;(iterate 3 exact rfl))|(apply qhq;(iterate 3 exact rfl)))|(apply q72;first|(apply zx;(iterate 3 exact rfl))|(apply qm1;(iterate 5 exact rfl))|(apply jd;(iterate 5 exact rfl)))|(apply q73;first|(apply qrv;exact rfl)|(apply z6;exact rfl)|(apply qio;exact rfl))|(apply q5l;first|(apply qbd;(iterate 3 exact rfl);exact cAs)|(apply qe3;(iterate 3 exact rfl);exact cAs)|(apply qg5;(iterate 4 exact rfl);exact cAs;exact cAs)|(apply qf8;(iterate 4 exact rfl);(first|assumption|omega|exact Nat.succ_le_succ (Nat.zero_le _)|(simp;omega));exact rfl))|(apply q71;first|(apply zl;(iterate 3 exact rfl))|(apply zy;(iterate 4 exact rfl)))|(apply quj;first|(apply zg;(iterate 3 exact rfl))|(apply qb3;(iterate 4 exact rfl)))|(apply q5m;first|(apply qat;(iterate 11 exact rfl))|(apply zu;(iterate 11 exact rfl)))|(apply zbj;first|apply qg|apply qj|apply qf|(apply zf;exact rfl;exact rfl)|(apply qk;exact rfl;apply wh;exact cAo)|(apply qk;exact rfl;apply wa;exact cAo)|(apply qk;exact rfl;apply qh5;exact cRa)|(apply qk;exact rfl;apply qfz;exact cRa)|(apply qk;exact rfl;apply pk_t;exact cRa)|(apply qk;exact rfl;apply pk_f;exact cRa)|(apply ka;exact rfl;exact rfl)|apply qhd|(apply jg;exact rfl;exact rfl)|(apply qax;(iterate 4 exact rfl))|(apply qlo;(iterate 3 exact rfl))|(apply vr;(iterate 3 exact rfl);exact cAs)|(apply vm;(iterate 3 exact rfl))|(apply kl;(iterate 9 exact rfl))|(apply xw;exact rfl;exact rfl)|(apply qki;(iterate 4 exact rfl);(first|assumption|omega|decide);exact rfl)|(apply qc5;(iterate 4 exact rfl);first|assumption|omega|decide)))
 refine qxc (xs:=[entA e]) (o:=o) (ver:=ver) rfl rfl e2 (by simp [flat,AV.cells]) q0n ?_
 repeat' (first|apply qm|apply qg|(apply z6;exact rfl)|(apply qc;exact rfl;apply qjr;exact cRa))
 refine qe5 [(0,.os o ver 0 (es.length+1) (cap+1)),(1,Iv i),(2,.sl 4 [entA e] none),(7,Iv 1)] st [] ⟨rfl,rfl,rfl,rfl,trivial⟩ rfl rfl fun t=>?_
 refine quc (fun s=>StA [(0,.os o ver 0 (es.length+1) (cap+1)),(1,Iv i),(2,.sl 4 [entA e] none)] (st.set o (.cells ver 139 X1)) [] s) ?_ ?_
 ·refine qjn rfl rfl ?_
  (apply yn 0;exact rfl;kernel_rfl;kernel_rfl;kernel_rfl;exact rfl;exact qah)
  (apply yn 1;exact rfl;kernel_rfl;kernel_rfl;kernel_rfl;exact rfl;exact qah)
  (apply yn 2;exact rfl;kernel_rfl;kernel_rfl;kernel_rfl;exact rfl;exact qah)
  (apply yn 5;exact rfl;kernel_rfl;kernel_rfl;kernel_rfl;exact rfl;exact qah)
  (apply yn 6;exact rfl;kernel_rfl;kernel_rfl;kernel_rfl;exact rfl;exact qah)
  refine wx [3,7] (by kernel_rfl) rfl ⟨⟨_,rfl,?_⟩,⟨_,rfl,?_⟩,trivial⟩
  ·(apply zh;exact rfl;exact rfl;exact qz (by omega) (by omega))
   apply qg
   refine wx [4,7] (by kernel_rfl) rfl ⟨⟨_,rfl,?_⟩,⟨_,rfl,?_⟩,trivial⟩
   ·(refine z0 (o:=o) (ver:=ver) (off:=0) (len:=es.length+1) (cap:=cap+1) (sz:=4) (i:=i+1) (j:=es.length+1) (m:=cap+1) rfl rfl rfl ?_ ?_ ?_ (by omega) (by omega) (by omega) ?_;exact⟨_,rfl⟩;exact⟨rfl,rfl⟩;exact rfl;rw [hi2])
    apply qg
    refine wx [7] (by kernel_rfl) rfl ⟨⟨_,rfl,?_⟩,trivial⟩
    (refine z0 (o:=o) (ver:=ver) (off:=0) (len:=es.length+1) (cap:=cap+1) (sz:=4) (i:=i) (j:=es.length+1) (m:=cap+1) rfl rfl rfl ?_ ?_ ?_ (by omega) (by omega) (by omega) ?_;exact⟨_,rfl⟩;exact⟨rfl,rfl⟩;exact rfl;rw [hi1])
    apply qg
    refine wx [8] (by kernel_rfl) rfl ⟨⟨_,rfl,?_⟩,trivial⟩
    (refine qap (o:=o) (ver:=ver) (off:=(i+1) * 4) (sz:=4) (bytes:=56) (m:=es.length - i) rfl rfl e2 hsrc ?_ rfl ⟨⟨_,_,rfl,rfl,rfl,rfl,rfl⟩⟩ ?_ ?_;(show min _ _=_;omega);(rw [e3];omega);rw [hsp1])
    apply qg
    refine qcx (by kernel_rfl) ?_
    exact ja ⟨rfl,rfl,rfl,trivial⟩
   ·(refine z0 (o:=o) (ver:=ver) (off:=0) (len:=es.length+1) (cap:=cap+1) (sz:=4) (i:=i) (j:=es.length+1) (m:=cap+1) rfl rfl rfl ?_ ?_ ?_ (by omega) (by omega) (by omega) ?_;exact⟨_,rfl⟩;exact⟨rfl,rfl⟩;exact rfl;rw [hi1])
    apply qg
    refine wx [4] (by kernel_rfl) rfl ⟨⟨_,rfl,?_⟩,trivial⟩
    (refine z0 (o:=o) (ver:=ver) (off:=0) (len:=es.length+1) (cap:=cap+1) (sz:=4) (i:=i+1) (j:=es.length+1) (m:=cap+1) rfl rfl rfl ?_ ?_ ?_ (by omega) (by omega) (by omega) ?_;exact⟨_,rfl⟩;exact⟨rfl,rfl⟩;exact rfl;rw [hi2])
    apply qg
    refine wx [8] (by kernel_rfl) rfl ⟨⟨_,rfl,?_⟩,trivial⟩
    (refine qap (o:=o) (ver:=ver) (off:=(i+1) * 4) (sz:=4) (bytes:=56) (m:=es.length - i) rfl rfl e2 hsrc ?_ rfl ⟨⟨_,_,rfl,rfl,rfl,rfl,rfl⟩⟩ ?_ ?_;(show min _ _=_;omega);(rw [e3];omega);rw [hsp1])
    apply qg
    refine qcx (by kernel_rfl) ?_
    exact ja ⟨rfl,rfl,rfl,trivial⟩
  ·(refine z0 (o:=o) (ver:=ver) (off:=0) (len:=es.length+1) (cap:=cap+1) (sz:=4) (i:=i) (j:=es.length+1) (m:=cap+1) rfl rfl rfl ?_ ?_ ?_ (by omega) (by omega) (by omega) ?_;exact⟨_,rfl⟩;exact⟨rfl,rfl⟩;exact rfl;rw [hi1])
   apply qg
   refine wx [3] (by kernel_rfl) rfl ⟨⟨_,rfl,?_⟩,trivial⟩
   (apply zh;exact rfl;exact rfl;exact qz (by omega) (by omega))
   apply qg
   refine wx [4] (by kernel_rfl) rfl ⟨⟨_,rfl,?_⟩,trivial⟩
   (refine z0 (o:=o) (ver:=ver) (off:=0) (len:=es.length+1) (cap:=cap+1) (sz:=4) (i:=i+1) (j:=es.length+1) (m:=cap+1) rfl rfl rfl ?_ ?_ ?_ (by omega) (by omega) (by omega) ?_;exact⟨_,rfl⟩;exact⟨rfl,rfl⟩;exact rfl;rw [hi2])
   apply qg
   refine wx [8] (by kernel_rfl) rfl ⟨⟨_,rfl,?_⟩,trivial⟩
   (refine qap (o:=o) (ver:=ver) (off:=(i+1) * 4) (sz:=4) (bytes:=56) (m:=es.length - i) rfl rfl e2 hsrc ?_ rfl ⟨⟨_,_,rfl,rfl,rfl,rfl,rfl⟩⟩ ?_ ?_;(show min _ _=_;omega);(rw [e3];omega);rw [hsp1])
   apply qg
   refine qcx (by kernel_rfl) ?_
   exact ja ⟨rfl,rfl,rfl,trivial⟩
 ·rintro _ ⟨t,rfl⟩
  have hob:(st.set o (AObj.cells ver 139 X1))[o]? = some (.cells ver 139 X1):=kh e2
  repeat' (first|apply qm|apply qe|apply qj)
  refine z0 (o:=o) (ver:=ver) (off:=0) (len:=es.length+1) (cap:=cap+1) (sz:=4) (i:=i) (j:=es.length+1) (m:=cap+1) rfl rfl rfl ?_ ?_ ?_ (by omega) (by omega) (by omega) ?_
  ·exact⟨_,rfl⟩
  ·exact⟨rfl,rfl⟩
  ·exact rfl
  rw [hi1]
  repeat' (first|apply qj)
  refine qap (o:=o) (ver:=ver) (off:=0+i * 4) (sz:=4) (bytes:=56) (L:=1) (m:=1) rfl rfl hob (.sl [entA e] none rfl) ?_ rfl ⟨⟨_,_,rfl,rfl,rfl,rfl,rfl⟩⟩ ?_ ?_
  ·show min _ _=_
   omega
  ·rw [hsl1]
   omega
  rw [hsp2]
  repeat' (first|apply qm|apply qe|apply qg|apply qj|apply qf|apply qt)
  refine qn rfl (q6 rfl) ?_
  show OwnR 4 139 _ st _ (.os o ver 0 (es.length+1) (cap+1)) ((st.set o _).set o (.cells ver 139 Xn))
  rw [List.set_set,← hXn]
  rw [← hXn] at hsl2
  exact⟨.inr ⟨o,ver,cap,_,by rw [List.length_map,hnl],kh e2,hsl2,qis _,by rw [List.length_map,hnl];omega,e6⟩,by simp,fun j hj hne=>List.getElem?_set_ne fun e=>hne (by rw [e];rfl),fun o' ho'=>.inr ho'⟩
set_option maxHeartbeats 4000000 in
theorem zfr (es:List EntV) (e:EntV) (i:Nat) (hi:i<es.length) (hl:es.length<1000000) (st:List AObj) (o ver cap:Nat) (pad:List AV) (e2:st[o]? = some (.cells ver 139 (flat (es.map entA)++pad))) (e3:(flat (es.map entA)++pad).length=(cap+1) * 4) (e5:es.length=cap+1) (e6:cap+1≤maxLen) :
  qo E 188 [.os o ver 0 es.length (cap+1),Iv i,.sl 4 [entA e] none] st fun r st'=>OwnR 4 139 ((es.take i++e::es.drop i).map entA) st (.os o ver 0 es.length (cap+1)) r st':=by
 have hI:=insB es e i cap pad hi
 have hlt:=lt_of_getElem? e2
 have hfl1:(flat [entA e]).length=4:=rfl
 have ht4:=hI.t4
 have hd4:=hI.d4
 have htake:=hI.take
 have hi1:(if cap+1=i then 0 else 0+i * 4)=0+i * 4:=if_neg (by omega)
 have hsrc:=fun S=>hI.src o ver (es.length - i) (cap+1 - i) S e3 (by omega)
 have hnl:=hI.nl
 have hnew:=hI.new
 have hk9:Iv ((es.length:Int)+1 - i)=Iv ((es.length+1 - i:Nat):Int):=congrArg (fun z:Int=>Iv z) (by omega)
 have hkk:i+(es.length+1 - i)=es.length+1:=by omega
 generalize flat ((es.drop i).map entA)=dz at hsrc hd4 hnew
 refine qp Tryz.func188 rfl (Nat.le_of_ble_eq_true rfl) ?_
 rw [List.append_nil]
 generalize flat (es.map entA)++pad=X0 at e2 e3 htake hsrc
 repeat' (first|apply qm|apply qe|apply qg|apply qj|apply qf)
 refine z0 (o:=o) (ver:=ver) (off:=0) (len:=es.length) (cap:=cap+1) (sz:=4) (i:=i) (j:=es.length) (m:=cap+1) rfl rfl rfl ?_ ?_ ?_ (by omega) (by omega) (by omega) ?_
 ·exact⟨_,rfl⟩
 ·exact⟨rfl,rfl⟩
 ·exact rfl
 repeat' (first|(apply zy (n:=1);(iterate 4 exact rfl))|apply qm|apply qe|apply qg|apply qj|apply qf|(apply qq;(iterate 3 exact rfl))|(apply qc;exact rfl;apply ku;exact cAo)|(apply zy;(iterate 4 exact rfl))|(apply zh;exact rfl;exact rfl;exact qz (by omega) (by omega))|apply qu)
 refine qrr rfl rfl rfl ?_
 refine qrw [(0,.os o ver 0 es.length (cap+1)),(1,Iv i),(2,.sl 4 [entA e] none),(7,Iv 1),(8,Iv es.length),(28,Iv ((es.length:Int)+1)),(30,Iv ((cap+1:Nat):Int))] st [] ⟨rfl,rfl,rfl,rfl,rfl,rfl,rfl,trivial⟩ rfl rfl fun t=>?_
 repeat' (first|apply qm|apply qe|apply qg|apply qj|(apply qq;(iterate 3 exact rfl))|(apply qc;exact rfl;apply kz;exact cAo))
 refine z0 (o:=o) (ver:=ver) (off:=0) (len:=es.length) (cap:=cap+1) (sz:=4) (i:=0) (j:=i) (m:=cap+1) rfl rfl rfl ?_ ?_ ?_ (by omega) (by omega) (by omega) ?_
 ·exact rfl
 ·exact⟨_,rfl⟩
 ·exact rfl
 repeat' (first|apply qj|(apply zh;exact rfl;exact rfl;exact qz (by omega) (by omega))|(apply xc;exact rfl;exact rfl;exact qz (by omega) (by omega)))
 refine qqf (sz:=4) (bytes:=56) (o:=o) (ver:=ver) (n:=i) (cap:=cap+1) (k:=es.length+1 - i) (cs:=X0) rfl hk9 e2 rfl rfl ⟨⟨_,_,rfl,rfl,rfl,rfl,rfl⟩⟩ (by omega) (by omega) (by omega) (by rw [e3];omega) (by simp only [maxLen];omega) (by omega) fun cap' zs z1 z2 z3=>?_
 rw [hkk,htake]
 refine qrw [(0,.os o ver 0 es.length (cap+1)),(1,Iv i),(2,.sl 4 [entA e] none),(7,Iv 1),(40,.os st.length 0 0 (es.length+1) cap')] (st++[.cells 0 139 (flat ((es.take i).map entA)++zs)]) [] ⟨rfl,rfl,rfl,rfl,rfl,trivial⟩ rfl rfl fun t=>?_
 obtain⟨cap',rfl⟩:∃ c,cap'=c+1:=⟨cap' - 1,by omega⟩
 have hi3:(if cap'+1=i then 0 else 0+i * 4)=0+i * 4:=if_neg (by omega)
 have hi4:(if cap'+1=i+1 then 0 else 0+(i+1) * 4)=(i+1) * 4:=by rw [if_neg (by omega)];omega
 have hsp1:zv (flat ((es.take i).map entA)++zs) (0+i * 4) (flat [entA e])=(flat ((es.take i).map entA)++flat [entA e])++zs.drop 4:=qd6 _ _ _ (by rw [ht4];omega)
 have hsp2:zv ((flat ((es.take i).map entA)++flat [entA e])++zs.drop 4) ((i+1) * 4) dz=flat ((es.take i++e::es.drop i).map entA)++(zs.drop 4).drop dz.length:=by
  rw [qd6 _ _ _ (by rw [List.length_append,ht4,hfl1];omega),hnew]
 have hl1:((flat ((es.take i).map entA)++flat [entA e])++zs.drop 4).length=(cap'+1) * 4:=by
  simp only [List.length_append,List.length_drop,ht4,hfl1,z1]
  omega
 have hl2:(flat ((es.take i++e::es.drop i).map entA)++(zs.drop 4).drop dz.length).length=(cap'+1) * 4:=by
  rw [← hsp2,qia (by rw [hl1,hd4];omega),hl1]
 have hl0:(flat ((es.take i).map entA)++zs).length=(cap'+1) * 4:=by
  rw [List.length_append,ht4,z1]
  omega
 repeat' (first|apply qm|apply qe|apply qg|apply qj|apply qf)
 refine z0 (o:=st.length) (ver:=0) (off:=0) (len:=es.length+1) (cap:=cap'+1) (sz:=4) (i:=i) (j:=es.length+1) (m:=cap'+1) rfl rfl rfl ?_ ?_ ?_ (by omega) (by omega) (by omega) ?_
 ·exact⟨_,rfl⟩
 ·exact⟨rfl,rfl⟩
 ·exact rfl
 rw [hi3]
 repeat' (first|apply qj)
 refine qap (o:=st.length) (ver:=0) (off:=0+i * 4) (sz:=4) (bytes:=56) (L:=1) (m:=1) rfl rfl xp (.sl [entA e] none rfl) ?_ rfl ⟨⟨_,_,rfl,rfl,rfl,rfl,rfl⟩⟩ ?_ ?_
 ·show min _ _=_
  omega
 ·rw [hl0]
  omega
 rw [hsp1]
 generalize hX1:(flat ((es.take i).map entA)++flat [entA e])++zs.drop 4=X1 at hsp2 hl1
 have hbo:(st++[AObj.cells 0 139 (flat ((es.take i).map entA)++zs)])[st.length]? = some (.cells 0 139 (flat ((es.take i).map entA)++zs)):=xp
 have hS1n:((st++[AObj.cells 0 139 (flat ((es.take i).map entA)++zs)]).set st.length (.cells 0 139 X1))[st.length]? = some (.cells 0 139 X1):=kh hbo
 have hS1o:((st++[AObj.cells 0 139 (flat ((es.take i).map entA)++zs)]).set st.length (.cells 0 139 X1))[o]? = some (.cells ver 139 X0):=by
  rw [List.getElem?_set_ne (by omega),List.getElem?_append_left hlt]
  exact e2
 have hS1j:∀ j,j<st.length→((st++[AObj.cells 0 139 (flat ((es.take i).map entA)++zs)]).set st.length (.cells 0 139 X1))[j]? = st[j]?:=fun j hj=>by
  rw [List.getElem?_set_ne (by omega),List.getElem?_append_left hj]
 have hS1l:((st++[AObj.cells 0 139 (flat ((es.take i).map entA)++zs)]).set st.length (.cells 0 139 X1)).length=st.length+1:=by simp
 repeat' (first|apply qm|apply qg)
 refine qe5 [(0,.os o ver 0 es.length (cap+1)),(1,Iv i),(7,Iv 1),(9,.os st.length 0 0 (es.length+1) (cap'+1))] ((st++[AObj.cells 0 139 (flat ((es.take i).map entA)++zs)]).set st.length (.cells 0 139 X1)) [] ⟨rfl,rfl,rfl,rfl,trivial⟩ rfl rfl fun t=>?_
 generalize (st++[AObj.cells 0 139 (flat ((es.take i).map entA)++zs)]).set st.length (.cells 0 139 X1)=S1 at hS1n hS1o hS1j hS1l
 refine quc (fun s=>StA [(9,.os st.length 0 0 (es.length+1) (cap'+1))] (S1.set st.length (.cells 0 139 (flat ((es.take i++e::es.drop i).map entA)++(zs.drop 4).drop dz.length))) [] s) ?_ ?_
 ·refine qjn rfl rfl ?_
  (apply yn 0;exact rfl;kernel_rfl;kernel_rfl;kernel_rfl;exact rfl;exact qah)
  (apply yn 1;exact rfl;kernel_rfl;kernel_rfl;kernel_rfl;exact rfl;exact qah)
  (apply yn 2;exact rfl;kernel_rfl;kernel_rfl;kernel_rfl;exact rfl;exact qah)
  (apply yn 5;exact rfl;kernel_rfl;kernel_rfl;kernel_rfl;exact rfl;exact qah)
  (apply yn 6;exact rfl;kernel_rfl;kernel_rfl;kernel_rfl;exact rfl;exact qah)
  refine wx [3,7] (by kernel_rfl) rfl ⟨⟨_,rfl,?_⟩,⟨_,rfl,?_⟩,trivial⟩
  ·(apply zh;exact rfl;exact rfl;exact qz (by omega) (by omega))
   apply qg
   refine wx [4,7] (by kernel_rfl) rfl ⟨⟨_,rfl,?_⟩,⟨_,rfl,?_⟩,trivial⟩
   ·(refine z0 (o:=st.length) (ver:=0) (off:=0) (len:=es.length+1) (cap:=cap'+1) (sz:=4) (i:=i+1) (j:=es.length+1) (m:=cap'+1) rfl rfl rfl ?_ ?_ ?_ (by omega) (by omega) (by omega) ?_;exact⟨_,rfl⟩;exact⟨rfl,rfl⟩;exact rfl;rw [hi4])
    apply qg
    refine wx [7] (by kernel_rfl) rfl ⟨⟨_,rfl,?_⟩,trivial⟩
    (refine z0 (o:=o) (ver:=ver) (off:=0) (len:=es.length) (cap:=cap+1) (sz:=4) (i:=i) (j:=es.length) (m:=cap+1) rfl rfl rfl ?_ ?_ ?_ (by omega) (by omega) (by omega) ?_;exact⟨_,rfl⟩;exact⟨rfl,rfl⟩;exact rfl;rw [hi1])
    apply qg
    refine wx [8] (by kernel_rfl) rfl ⟨⟨_,rfl,?_⟩,trivial⟩
    (refine qap (o:=st.length) (ver:=0) (off:=(i+1) * 4) (sz:=4) (bytes:=56) (m:=es.length - i) rfl rfl hS1n (hsrc S1 hS1o) ?_ rfl ⟨⟨_,_,rfl,rfl,rfl,rfl,rfl⟩⟩ ?_ ?_;(show min _ _=_;omega);(rw [hl1];omega);rw [hsp2])
    apply qg
    refine qcx (by kernel_rfl) ?_
    exact ja ⟨rfl,trivial⟩
   ·(refine z0 (o:=o) (ver:=ver) (off:=0) (len:=es.length) (cap:=cap+1) (sz:=4) (i:=i) (j:=es.length) (m:=cap+1) rfl rfl rfl ?_ ?_ ?_ (by omega) (by omega) (by omega) ?_;exact⟨_,rfl⟩;exact⟨rfl,rfl⟩;exact rfl;rw [hi1])
    apply qg
    refine wx [4] (by kernel_rfl) rfl ⟨⟨_,rfl,?_⟩,trivial⟩
    (refine z0 (o:=st.length) (ver:=0) (off:=0) (len:=es.length+1) (cap:=cap'+1) (sz:=4) (i:=i+1) (j:=es.length+1) (m:=cap'+1) rfl rfl rfl ?_ ?_ ?_ (by omega) (by omega) (by omega) ?_;exact⟨_,rfl⟩;exact⟨rfl,rfl⟩;exact rfl;rw [hi4])
    apply qg
    refine wx [8] (by kernel_rfl) rfl ⟨⟨_,rfl,?_⟩,trivial⟩
    (refine qap (o:=st.length) (ver:=0) (off:=(i+1) * 4) (sz:=4) (bytes:=56) (m:=es.length - i) rfl rfl hS1n (hsrc S1 hS1o) ?_ rfl ⟨⟨_,_,rfl,rfl,rfl,rfl,rfl⟩⟩ ?_ ?_;(show min _ _=_;omega);(rw [hl1];omega);rw [hsp2])
    apply qg
    refine qcx (by kernel_rfl) ?_
    exact ja ⟨rfl,trivial⟩
  ·(refine z0 (o:=o) (ver:=ver) (off:=0) (len:=es.length) (cap:=cap+1) (sz:=4) (i:=i) (j:=es.length) (m:=cap+1) rfl rfl rfl ?_ ?_ ?_ (by omega) (by omega) (by omega) ?_;exact⟨_,rfl⟩;exact⟨rfl,rfl⟩;exact rfl;rw [hi1])
   apply qg
   refine wx [3] (by kernel_rfl) rfl ⟨⟨_,rfl,?_⟩,trivial⟩
   (apply zh;exact rfl;exact rfl;exact qz (by omega) (by omega))
   apply qg
   refine wx [4] (by kernel_rfl) rfl ⟨⟨_,rfl,?_⟩,trivial⟩
   (refine z0 (o:=st.length) (ver:=0) (off:=0) (len:=es.length+1) (cap:=cap'+1) (sz:=4) (i:=i+1) (j:=es.length+1) (m:=cap'+1) rfl rfl rfl ?_ ?_ ?_ (by omega) (by omega) (by omega) ?_;exact⟨_,rfl⟩;exact⟨rfl,rfl⟩;exact rfl;rw [hi4])
   apply qg
   refine wx [8] (by kernel_rfl) rfl ⟨⟨_,rfl,?_⟩,trivial⟩
   (refine qap (o:=st.length) (ver:=0) (off:=(i+1) * 4) (sz:=4) (bytes:=56) (m:=es.length - i) rfl rfl hS1n (hsrc S1 hS1o) ?_ rfl ⟨⟨_,_,rfl,rfl,rfl,rfl,rfl⟩⟩ ?_ ?_;(show min _ _=_;omega);(rw [hl1];omega);rw [hsp2])
   apply qg
   refine qcx (by kernel_rfl) ?_
   exact ja ⟨rfl,trivial⟩
 ·rintro _ ⟨t,rfl⟩
  repeat' (first|apply qm|apply qe|apply qg|apply qj|apply qf|apply qt)
  refine qn rfl (q6 rfl) ?_
  show OwnR 4 139 _ st _ (.os st.length 0 0 (es.length+1) (cap'+1)) (S1.set st.length (.cells 0 139 (flat ((es.take i++e::es.drop i).map entA)++(zs.drop 4).drop dz.length)))
  refine⟨.inr ⟨st.length,0,cap',_,by rw [List.length_map,hnl],kh hS1n,hl2,qis _,by rw [List.length_map,hnl];omega,z3⟩,by rw [List.length_set,hS1l];omega,fun j hj _=>?_,fun o' ho'=>?_⟩
  ·rw [List.getElem?_set_ne (by omega)]
   exact hS1j j hj
  ·simp only [zp,Option.some.injEq] at ho'
   left
   omega
theorem q9v (es:List EntV) (e:EntV) (i:Nat) (hi:i≤es.length) (hl:es.length<1000000) (st:List AObj) (c:AV) (hc:OwnS st 4 139 (es.map entA) c):qo E 188 [c,Iv i,.sl 4 [entA e] none] st fun r st'=>OwnR 4 139 ((es.take i++e::es.drop i).map entA) st c r st':=by
 have hml:(es.map entA).length=es.length:=by simp
 have hap:i=es.length→(es.take i++e::es.drop i).map entA=es.map entA++[entA e]:=fun h=>by subst h;simp
 rcases hc with⟨h0,hnr⟩ | ⟨o,ver,cap,pad,rfl,e2,e3,e4,e5,e6⟩
 ·have hes:es=[]:=by simpa using h0
  subst hes
  obtain rfl:i=0:=by simpa using hi
  rw [hap rfl]
  exact zfp e st c hnr
 ·rw [hml] at e5 ⊢
  by_cases hin:i=es.length
  ·rw [hap hin]
   subst hin
   exact zfq es e hl st o ver cap pad e2 e3 e5 e6
  ·by_cases hroom:es.length+1≤cap+1
   ·exact zfs es e i (by omega) hl st o ver cap pad e2 e3 hroom e6
   ·exact zfr es e i (by omega) hl st o ver cap pad e2 e3 (by omega) e6
end Go.Proofs.YtmoklbacdkmkaaaGreatDoor
namespace Go.Pl
open Go Go.Proofs
def qkc (l:q9) (i:Nat) (x:jj):q9:=match l.ents[i]? with
 |some e=>⟨l.ents.set i ⟨x,e.id⟩,l.next,l.many⟩
 |none=>l
def y9 (l:q9) (id:Int) (fs:List Fld):ErrV×q9:=if atF l id<0 then (.num 7,l) else if jx fs = .no then (.no,qkc l (atF l id).toNat (qbo fs)) else (jx fs,l)
def delL (l:q9) (i:Nat):q9:=⟨l.ents.take i++l.ents.drop (i+1),l.next,l.many - 1⟩
def delF (l:q9) (id:Int):ErrV×q9:=if atF l id<0 then (.num 7,l) else (.no,delL l (atF l id).toNat)
def insL (l:q9) (k:Nat) (x:jj):q9:=⟨l.ents.take k++⟨x,l.next⟩::l.ents.drop k,l.next+1,l.many+1⟩
def insF (l:q9) (id:Int) (fs:List Fld):Int×ErrV×q9:=
 if atF l id<0∧id≠0 then (0,.num 7,l) else if jx fs = .no then (if 400≤l.many then (0,.num 11,l) else (l.next,.no,insL l (atF l id+1).toNat (qbo fs))) else (0,jx fs,l)
structure LB (n:Nat) (l:q9):Prop where
 small:n<900000
 len:l.ents.length≤n
 nx0:1≤l.next
 nx1:l.next≤n+1
 mn0 : -(n:Int)≤l.many
 mn1:l.many≤n
theorem zcw {n:Nat} {l:q9} (h:LB n l) (hs:n+1<900000) (id:Int) (fs:List Fld):LB (n+1) (y9 l id fs).2:=by
 have h1:=h.len;have h2:=h.nx0;have h3:=h.nx1;have h4:=h.mn0;have h5:=h.mn1
 unfold y9
 split
 ·exact⟨hs,by simp only;omega,h2,by simp only;omega,by simp only;omega,by simp only;omega⟩
 ·split
  ·unfold qkc
   split
   ·exact⟨hs,by simp;omega,h2,by simp only;omega,by simp only;omega,by simp only;omega⟩
   ·exact⟨hs,by simp only;omega,h2,by simp only;omega,by simp only;omega,by simp only;omega⟩
  ·exact⟨hs,by simp only;omega,h2,by simp only;omega,by simp only;omega,by simp only;omega⟩
theorem zeh {n:Nat} {l:q9} (h:LB n l) (hs:n+1<900000) (id:Int):LB (n+1) (delF l id).2:=by
 have h1:=h.len;have h2:=h.nx0;have h3:=h.nx1;have h4:=h.mn0;have h5:=h.mn1
 unfold delF
 split
 ·exact⟨hs,by simp only;omega,h2,by simp only;omega,by simp only;omega,by simp only;omega⟩
 ·exact⟨hs,by simp [delL];omega,h2,by simp only [delL];omega,by simp only [delL];omega,by simp only [delL];omega⟩
theorem zet {n:Nat} {l:q9} (h:LB n l) (hs:n+1<900000) (id:Int) (fs:List Fld):LB (n+1) (insF l id fs).2.2:=by
 have h1:=h.len;have h2:=h.nx0;have h3:=h.nx1;have h4:=h.mn0;have h5:=h.mn1
 have same:LB (n+1) l:=⟨hs,by omega,h2,by omega,by omega,by omega⟩
 unfold insF
 split
 ·exact same
 ·split
  ·split
   ·exact same
   ·exact⟨hs,by simp [insL];omega,by simp only [insL];omega,by simp only [insL];omega,by simp only [insL];omega,by simp only [insL];omega⟩
  ·exact same
end Go.Pl
namespace Go.Proofs.YtmoklbacdkmkaaaGreatDoor
open Go Go.Av Go.RowKit Go.Proofs Go.Pl
def oneF (l:q9) (x:qs):Int×ErrV×q9:=if x.kind=1 then (0,y9 l x.id x.fields) else if x.kind=2 then (0,delF l x.id) else insF l x.id x.fields
theorem qo7 {n:Nat} {l:q9} (h:LB n l) (hs:n+1<900000) (x:qs):LB (n+1) (oneF l x).2.2:=by
 unfold oneF
 split
 ·exact zcw h hs _ _
 ·split
  ·exact zeh h hs _
  ·exact zet h hs _ _
theorem zez (l:q9) (hl:l.ents.length<1000000):v4 E 72 [.a (vw l)] 0 (hpF []) ⟨.bx 0 0,vv [],lstH 1 l++wj [],2⟩:=by
 refine x8 [.a (vw l)] [] 0 (.bx 0 0) (lstH 1 l) 2 Tryz.func72 rfl rfl rfl rfl fun S F ρ=>?_
 apply qd [19]
 repeat' (first|apply And.intro|(intro h;try exact cDd)|exact⟨Tryz.call130⟩|(refine Exists.intro _ ⟨q2a [.sl 4 (l.ents.map entA) none] _ (fun _=>rfl) (fun st=>q5a l.ents st hl),?_⟩)|exact cSd|apply qb [19]|refine exr ?_|refine qh ?_)
theorem ze5 (n:Nat) (l:q9) (id:Int) (fs:List Fld) (hB:LB n l) (hK:KeyB fs) (hl:fs.length<1000000):v4 E 131 [.bx 0 0,.i id,.a (jq fs)] 2 (hpF (lstH 1 l)) ⟨.a (errA (y9 l id fs).1),vv (lstH 1 l),lstH 2 (y9 l id fs).2++wj (lstH 1 l),3⟩:=by
 refine x8 [.bx 0 0,.i id,.a (jq fs)] (lstH 1 l) 2 (.a (errA (y9 l id fs).1)) (lstH 2 (y9 l id fs).2) 3 Tryz.func131 rfl rfl rfl rfl fun S F ρ=>?_
 have hle:=hB.len
 have hsm:=hB.small
 have h1:=qub l id (by omega)
 have h2:=fun st=>q39 fs st hK hl
 unfold y9
 rcases qeb l id with h | ⟨i,e,h,he,hid,hid1⟩
 ·rw [h] at h1 ⊢
  rw [if_pos (by decide)]
  apply qd []
  repeat' (first|apply And.intro|(intro h;try exact cDd)|exact⟨Tryz.call69⟩|(refine jv h1 ?_)|exact cSd|apply qb []|refine exr ?_|refine qh ?_)
 ·rw [h] at h1 ⊢
  rw [if_neg (by omega)]
  have hm:(l.ents.map entA)[i]? = some (entA e):=by rw [List.getElem?_map,he];rfl
  have hil:=lt_of_getElem? hm
  unfold qbo at h2 ⊢
  cases hc:jx fs with
  |no=>
   rw [hc,if_pos rfl] at h2
   rw [if_pos rfl,if_pos rfl]
   unfold qkc
   rw [Int.toNat_natCast,he]
   apply qd []
   repeat' (first|apply And.intro|(intro h;try exact cDd)|exact⟨Tryz.call69⟩|(refine jv h1 ?_)|exact⟨Tryz.call186⟩|refine cpe h2 ?_|(refine qgi (i:=i) rfl rfl rfl rfl rfl rfl (by omega) ?_)|(refine q84 (i:=i) (j:=0) (z:=entA e) (z':=entA ⟨⟨3,zo fs,fs⟩,e.id⟩) (u:=wg ⟨3,zo fs,fs⟩) rfl rfl (fun _=>rfl) rfl rfl rfl hm rfl rfl ?_)|exact cSd|apply qb []|refine exr ?_|refine qh ?_)
   all_goals (simp [List.map_set];done)
  |num m=>
   rw [hc,if_neg (by simp)] at h2
   rw [if_neg (by simp)]
   apply qd []
   repeat' (first|apply And.intro|(intro h;try exact cDd)|exact⟨Tryz.call69⟩|(refine jv h1 ?_)|exact⟨Tryz.call186⟩|refine cpe h2 ?_|exact cSd|apply qb []|refine exr ?_|refine qh ?_)
  |at' a m=>
   rw [hc,if_neg (by simp)] at h2
   rw [if_neg (by simp)]
   apply qd []
   repeat' (first|apply And.intro|(intro h;try exact cDd)|exact⟨Tryz.call69⟩|(refine jv h1 ?_)|exact⟨Tryz.call186⟩|refine cpe h2 ?_|exact cSd|apply qb []|refine exr ?_|refine qh ?_)
theorem zgp (n:Nat) (l:q9) (id:Int) (hB:LB n l):v4 E 132 [.bx 0 0,.i id] 2 (hpF (lstH 1 l)) ⟨.a (errA (delF l id).1),vv (lstH 1 l),lstH 2 (delF l id).2++wj (lstH 1 l),3⟩:=by
 refine x8 [.bx 0 0,.i id] (lstH 1 l) 2 (.a (errA (delF l id).1)) (lstH 2 (delF l id).2) 3 Tryz.func132 rfl rfl rfl rfl fun S F ρ=>?_
 have hle:=hB.len
 have hsm:=hB.small
 have h4:=hB.mn0
 have h5:=hB.mn1
 have h1:=qub l id (by omega)
 unfold delF
 rcases qeb l id with h | ⟨i,e,h,he,hid,hid1⟩
 ·rw [h] at h1 ⊢
  rw [if_pos (by decide)]
  apply qd []
  repeat' (first|apply And.intro|(intro h;try exact cDd)|exact⟨Tryz.call69⟩|(refine jv h1 ?_)|exact cSd|apply qb []|refine exr ?_|refine qh ?_)
 ·rw [h] at h1 ⊢
  rw [if_neg (by omega)]
  have hil:=lt_of_getElem? he
  have h2:=qqm (f:=187) (E:=E) (xs:=l.ents.map entA) [Iv i,Iv ((i:Int)+1)] rfl (fun st c hc=>zha l.ents i hil (by omega) st c hc)
  unfold delL
  rw [Int.toNat_natCast]
  apply qd []
  repeat' (first|apply And.intro|(intro h;try exact cDd)|exact⟨Tryz.call69⟩|(refine jv h1 ?_)|exact⟨Tryz.call187⟩|(refine jv h2 ?_)|exact cSd|apply qb []|refine exr ?_|refine qh ?_)
theorem zgt (n:Nat) (l:q9) (id:Int) (fs:List Fld) (hB:LB n l) (hK:KeyB fs) (hl:fs.length<1000000):v4 E 133 [.bx 0 0,.i id,.a (jq fs)] 2 (hpF (lstH 1 l)) ⟨.tu [.i (insF l id fs).1,.a (errA (insF l id fs).2.1)],vv (lstH 1 l),lstH 2 (insF l id fs).2.2++wj (lstH 1 l),3⟩:=by
 refine x8 [.bx 0 0,.i id,.a (jq fs)] (lstH 1 l) 2 (.tu [.i (insF l id fs).1,.a (errA (insF l id fs).2.1)]) (lstH 2 (insF l id fs).2.2) 3 Tryz.func133 rfl rfl rfl rfl fun S F ρ=>?_
 have hle:=hB.len
 have hsm:=hB.small
 have h4:=hB.mn0
 have h5:=hB.mn1
 have h6:=hB.nx0
 have h7:=hB.nx1
 have h1:=qub l id (by omega)
 have h2:=fun st=>q39 fs st hK hl
 unfold insF
 rcases qeb l id with h | ⟨i,e,h,he,hid,hid1⟩
 ·rw [h] at h1 ⊢
  by_cases h0:id=0
  ·rw [if_neg (fun q=>q.2 h0)]
   rw [show ((-1:Int)+1).toNat=0 from rfl]
   unfold qbo at h2 ⊢
   cases hc:jx fs with
   |no=>
    rw [hc,if_pos rfl] at h2
    rw [if_pos rfl,if_pos rfl]
    by_cases hm:400≤l.many
    ·rw [if_pos hm]
     apply qd []
     repeat' (first|apply And.intro|(intro h;try exact cDd)|exact⟨Tryz.call69⟩|(refine jv h1 ?_)|exact⟨Tryz.call186⟩|refine cpe h2 ?_|exact cSd|apply qb []|refine exr ?_|refine qh ?_)
    ·rw [if_neg hm]
     have h3:=qqm (f:=188) (E:=E) (xs:=l.ents.map entA) [Iv ((0:Nat):Int),.sl 4 [entA ⟨⟨3,zo fs,fs⟩,l.next⟩] none] rfl (fun st c hc=>q9v l.ents ⟨⟨3,zo fs,fs⟩,l.next⟩ (0) (by omega) (by omega) st c hc)
     unfold insL
     apply qd []
     repeat' (first|apply And.intro|(intro h;try exact cDd)|exact⟨Tryz.call69⟩|(refine jv h1 ?_)|exact⟨Tryz.call186⟩|refine cpe h2 ?_|exact⟨Tryz.call188⟩|(refine jv h3 ?_)|exact cSd|apply qb []|refine exr ?_|refine qh ?_)
   |num m=>
    rw [hc,if_neg (by simp)] at h2
    rw [if_neg (by simp)]
    apply qd []
    repeat' (first|apply And.intro|(intro h;try exact cDd)|exact⟨Tryz.call69⟩|(refine jv h1 ?_)|exact⟨Tryz.call186⟩|refine cpe h2 ?_|exact cSd|apply qb []|refine exr ?_|refine qh ?_)
   |at' a m=>
    rw [hc,if_neg (by simp)] at h2
    rw [if_neg (by simp)]
    apply qd []
    repeat' (first|apply And.intro|(intro h;try exact cDd)|exact⟨Tryz.call69⟩|(refine jv h1 ?_)|exact⟨Tryz.call186⟩|refine cpe h2 ?_|exact cSd|apply qb []|refine exr ?_|refine qh ?_)
  ·rw [if_pos ⟨by decide,h0⟩]
   apply qd []
   repeat' (first|apply And.intro|(intro h;try exact cDd)|exact⟨Tryz.call69⟩|(refine jv h1 ?_)|exact cSd|apply qb []|refine exr ?_|refine qh ?_)
 ·rw [h] at h1 ⊢
  have hil:=lt_of_getElem? he
  rw [if_neg (fun q=>absurd q.1 (by omega))]
  rw [show ((i:Int)+1).toNat=i+1 from rfl]
  unfold qbo at h2 ⊢
  cases hc:jx fs with
  |no=>
   rw [hc,if_pos rfl] at h2
   rw [if_pos rfl,if_pos rfl]
   by_cases hm:400≤l.many
   ·rw [if_pos hm]
    apply qd []
    repeat' (first|apply And.intro|(intro h;try exact cDd)|exact⟨Tryz.call69⟩|(refine jv h1 ?_)|exact⟨Tryz.call186⟩|refine cpe h2 ?_|exact cSd|apply qb []|refine exr ?_|refine qh ?_)
   ·rw [if_neg hm]
    have h3:=qqm (f:=188) (E:=E) (xs:=l.ents.map entA) [Iv ((i+1:Nat):Int),.sl 4 [entA ⟨⟨3,zo fs,fs⟩,l.next⟩] none] rfl (fun st c hc=>q9v l.ents ⟨⟨3,zo fs,fs⟩,l.next⟩ (i+1) (by omega) (by omega) st c hc)
    unfold insL
    apply qd []
    repeat' (first|apply And.intro|(intro h;try exact cDd)|exact⟨Tryz.call69⟩|(refine jv h1 ?_)|exact⟨Tryz.call186⟩|refine cpe h2 ?_|exact⟨Tryz.call188⟩|(refine jv h3 ?_)|exact cSd|apply qb []|refine exr ?_|refine qh ?_)
  |num m=>
   rw [hc,if_neg (by simp)] at h2
   rw [if_neg (by simp)]
   apply qd []
   repeat' (first|apply And.intro|(intro h;try exact cDd)|exact⟨Tryz.call69⟩|(refine jv h1 ?_)|exact⟨Tryz.call186⟩|refine cpe h2 ?_|exact cSd|apply qb []|refine exr ?_|refine qh ?_)
  |at' a m=>
   rw [hc,if_neg (by simp)] at h2
   rw [if_neg (by simp)]
   apply qd []
   repeat' (first|apply And.intro|(intro h;try exact cDd)|exact⟨Tryz.call69⟩|(refine jv h1 ?_)|exact⟨Tryz.call186⟩|refine cpe h2 ?_|exact cSd|apply qb []|refine exr ?_|refine qh ?_)
end Go.Proofs.YtmoklbacdkmkaaaGreatDoor
