/- Contracts and plain facts that the closing text leans on (part 10). No condition of their own beyond those that each states. -/
import Derived.Test.YtmoklbacdkmkaaaGreatDoorK9
set_option maxRecDepth 100000
set_option linter.unusedVariables false
set_option linter.unusedSimpArgs false
namespace Go.Proofs.YtmoklbacdkmkaaaGreatDoor
open Go Go.Av Go.RowKit Go.Proofs Go.Pl
theorem qp8:∀ (b:List qu) (k:Nat) (l:zg) (ids:List Int),(yg k b l ids).1≠.no→(yg k b l ids).1.code≠0
 | [],k,l,ids,h=>by simp [yg] at h
 |x::r,k,l,ids,h=>by
  unfold yg at h ⊢
  split
  ·rename_i he
   rw [if_pos he] at h
   exact qp8 r _ _ _ h
  ·rename_i he
   exact qov he
theorem zcm {l:zg} {b:List qu} (h:(doF l b).1≠.no):(doF l b).1.code≠0:=by
 unfold doF at h ⊢
 split
 ·rename_i he
  rw [if_pos he] at h
  exact qp8 _ _ _ _ h
 ·rename_i he
  exact fun h'=>he ((qdq b).1 h')
def lR (b:wa) (n:Nat):zg:=if jt b.base = .no then (wq b.base (b.batches.take n)).2.l else⟨[],0,0⟩
def gR (b:wa) (n:Nat):List (List Int):=if (wq b.base (b.batches.take n)).1 = .no then (wq b.base (b.batches.take n)).2.given else []
theorem qw9 {base:Bytes}:∀ (bs:List (List qu)) (k:Nat) (r:RunV),k+bs.length≤14000→LB (300000+40 * k) r.l→LM r.l→LI r.l→LB 860000 (v7 bs r).2.l∧LM (v7 bs r).2.l∧LI (v7 bs r).2.l
 | [],k,r,hk,h1,h2,h3=>⟨qd9 h1 (by simp at hk;omega) (by omega),h2,h3⟩
 |b::q,k,r,hk,h1,h2,h3=>by
  simp only [List.length_cons] at hk
  unfold v7
  split
  ·exact qw9 (base:=base) q (k+1) _ (by omega) (qd9 (qst h1 (by omega) b) (by omega) (by omega)) (q86 h2 h1 (by omega) b) (zhi h3 b)
  ·exact⟨qd9 h1 (by omega) (by omega),h2,h3⟩
theorem q1p (base:Bytes) (bs:List (List qu)) (h:bs.length≤14000):LB 860000 (wq base bs).2.l∧LM (wq base bs).2.l∧LI (wq base bs).2.l:=by
 unfold wq
 split
 ·exact qw9 (base:=base) bs 0 _ (by omega) (qto base) (q90 _) (zh2 base)
 ·exact⟨⟨by omega,by simp [ofF],by simp [ofF],by simp [ofF],by simp [ofF],by simp [ofF]⟩,by simp [ofF,LM,cntF],by simp [ofF,LI]⟩
theorem qx9 (b:wa) (n:Nat) (st:List AObj) (hB:BkB b) (hn:n≤b.batches.length):qp E 34 [qcg b,Iv n] st fun r st'=>r = .tu [vp (lR b n),q0l (gR b n),Iv (wq b.base (b.batches.take n)).1.pos,Iv (wq b.base (b.batches.take n)).1.code]∧st'=st:=by
 refine zl [.a (qcg b),.i n] (qjr (yo _) (qqf _) (qs _) (qs _)) Tryz.func34 rfl rfl (fun _=>rfl) rfl fun S0=>?_
 have hof:=fun st=>zas b.base st hB.base
 have hlb:=qto b.base
 have hlm:=q90 (itsE b.base)
 have hbl:=hB.len
 have hbs:(b.batches.take n).length=n:=by simp;omega
 have hbb:∀ x∈b.batches.take n,BB x∧x.length≤5000:=fun x hx=>hB.bat x (List.mem_of_mem_take hx)
 have hix:∀ k,k<n→∃ x,(b.batches.take n)[k]? = some x∧(b.batches.map jg)[k]? = some (jg x)∧(b.batches.take n).drop k=x::(b.batches.take n).drop (k+1)∧BB x:=fun k hk=>by
  have h1:(b.batches.take n)[k]? = some (b.batches.take n)[k]:=List.getElem?_eq_getElem (by omega)
  refine⟨_,h1,?_,by rw [List.drop_eq_getElem_cons (by omega)],(hbb _ (List.getElem_mem _)).1⟩
  rw [List.getElem?_map]
  have h2:(b.batches.take n)[k]? = b.batches[k]?:=by rw [List.getElem?_take,if_pos hk]
  rw [← h2,h1]
  try rfl
 unfold lR gR wq ofR at *
 generalize b.batches.take n=bs at hbs hix
 generalize itsE b.base=its at hlb hof hlm
 by_cases he:jt b.base = .no
 ·rw [he] at hof
  simp only [if_pos he]
  rw [if_pos rfl] at hof
  apply qe []
  repeat' (first|apply And.intro|(intro h;try exact cDd)|exact⟨Tryz.call82⟩|refine cpe hof ?_|exact cSd|apply qc []|refine exr ?_|refine qi ?_)
  refine jf (X:=Nat×RunV) (fun (k,r)=>⟨[(1,.i n),(2,.a (.pp [Iv b.gen,Sv b.base,qfb b.batches,qby b.ends,Sv b.tail])),(4,.bx 0 0),(8,.bx 1 0),(11,.tp 2),(12,.i k)],[(0,some (.cells 35 [.a zm,.i 0])),(1,some (.cells 35 [.a (qe5 r.l.ents),.i r.l.next])),(2,some (.tip 1 24 (r.given.map qby)))],3⟩)
   (fun (k,r)=>k≤n∧LB (300000+40 * k) r.l∧LM r.l∧r.given.length=k∧v7 (bs.drop k) r=v7 bs ⟨ofF its,[],[]⟩) (fun (k,r)=>n - k) (0,⟨ofF its,[],[]⟩) ⟨by omega,hlb,hlm,rfl,rfl⟩ ?_ ?_
  ·skip
   repeat' (first|apply And.intro|(intro h;try exact cDd)|exact cSd|apply qc []|refine exr ?_|refine qi ?_)
   all_goals first|rfl|(simp;done)
  ·rintro⟨k,r⟩ ⟨hk,hq,hqm,hgl,hrun⟩
   by_cases hkn:k<n
   ·obtain⟨x,hx,hxm,hdr,hxb⟩:=hix k hkn
    rw [hdr,v7] at hrun
    have hdo:=fun st=>zao (300000+40 * k) r.l x st hq hqm (by omega) hxb.2 hxb.1
    have hgm:(r.given.map qby).length=k:=by simp [hgl]
    unfold doR at hdo
    by_cases hok:(doF r.l x).1 = .no
    ·rw [if_pos hok] at hrun
     simp only [if_pos hok] at hdo
     have hgl2:(qaz r x).given.length=k+1:=by simp [qaz,hgl]
     have hlb3:LB (300000+40 * (k+1)) (qaz r x).l:=qd9 (qst hq (by omega) x) (by omega) (by omega)
     have hlm3:LM (qaz r x).l:=q86 hqm hq (by omega) x
     apply qe []
     repeat' (first|apply And.intro|(intro h;try exact cDd)|(refine Exists.intro (k) ⟨by omega,_,hxm,?_⟩)|exact⟨Tryz.call83⟩|refine cpe hdo ?_|(refine Exists.intro (k+1,qaz r x) ⟨⟨by omega,hlb3,hlm3,hgl2,hrun⟩,by simp only;omega,?_⟩)|exact cSd|apply qc []|refine exr ?_|refine qi ?_)
     all_goals first|(simp [qaz];done)|(simp [qaz];omega)
    ·rw [if_neg hok] at hrun
     rw [← hrun]
     simp only [if_neg hok] at hdo
     have hcd:=zcm hok
     generalize (doF r.l x).1.code=c at hdo hcd
     simp only [reduceCtorEq,if_false,hgl]
     apply qe []
     repeat' (first|apply And.intro|(intro h;try exact cDd)|(refine Exists.intro (k) ⟨by omega,_,hxm,?_⟩)|exact⟨Tryz.call83⟩|refine cpe hdo ?_|exact cSd|apply qc []|refine exr ?_|refine qi ?_)
   ·have hkn:k=n:=by omega
    subst hkn
    rw [List.drop_of_length_le (by omega),v7] at hrun
    rw [← hrun,if_pos rfl]
    apply qe []
    repeat' (first|apply And.intro|(intro h;try exact cDd)|exact cSd|apply qc []|refine exr ?_|refine qi ?_)
 ·simp only [if_neg he] at hof ⊢
  obtain⟨its',p,m,hpa,hp,hm,hm0⟩:=qo1 b.base hB.base
  have hz:m≠0:=fun h=>he (hm0.1 h)
  rw [← hp,← hm] at hof ⊢
  apply qe []
  repeat' (first|apply And.intro|(intro h;try exact cDd)|exact⟨Tryz.call82⟩|refine cpe hof ?_|exact cSd|apply qc []|refine exr ?_|refine qi ?_)
theorem zat (b:wa) (st:List AObj) (hB:BkB b):qp E 51 [qcg b] st fun r st'=>r = .tu [vp (lR b b.batches.length),Iv (wq b.base b.batches).1.pos,Iv (wq b.base b.batches).1.code]∧st'=st:=by
 refine zl [.a (qcg b)] (qag (yo _) (qs _) (qs _)) Tryz.func51 rfl rfl (fun _=>rfl) rfl fun S0=>?_
 have h1:=fun st=>qx9 b b.batches.length st hB (Nat.le_refl _)
 rw [List.take_length] at h1
 have hml:(b.batches.map jg).length=b.batches.length:=by simp
 rw [← hml] at h1 ⊢
 apply qe []
 repeat' (first|apply And.intro|(intro h;try exact cDd)|exact⟨Tryz.call34⟩|refine cpe h1 ?_|exact cSd|apply qc []|refine exr ?_|refine qi ?_)
theorem qo3 {text:Bytes} (h:(jv text).1 = .no):BkB (jv text).2:=qme (qjc (text:=text) (b:=(jv text).2) (by rw [← h]))
theorem zdi {text:Bytes} (h:jt text≠.no):(jt text).code≠0:=by
 cases hpe:jt text with
 |no=>exact absurd hpe h
 |num n=>have:=qmz hpe;simp [ErrV.code];omega
 |at' a n=>have:=qox hpe;simpa [ErrV.code] using this
theorem qnn:∀ (bs:List (List qu)) (r:RunV),(v7 bs r).1≠.no→(v7 bs r).1.code≠0
 | [],r,h=>by simp [v7] at h
 |b::q,r,h=>by
  unfold v7 at h ⊢
  split
  ·rename_i he
   rw [if_pos he] at h
   exact qnn q _ h
  ·exact (by decide:(10:Int)≠0)
theorem qts {base:Bytes} {bs:List (List qu)} (h:(wq base bs).1≠.no):(wq base bs).1.code≠0:=by
 unfold wq at h ⊢
 split
 ·rename_i he
  rw [if_pos he] at h
  exact qnn _ _ h
 ·rename_i he
  exact zdi he
def q2a (q:ErrV×wa×zg):AV:=.tu [qcg q.2.1,vp (if q.1 = .no then q.2.2 else⟨[],0,0⟩),Iv q.1.pos,Iv q.1.code]
theorem q32 (text:Bytes) (st:List AObj) (hl:text.length<1000000):qp E 13 [Sv text] st fun r st'=>r=q2a (kh text)∧st'=st:=by
 refine zl [.s text] (qjr (qgf _) (yo _) (qs _) (qs _)) Tryz.func13 rfl rfl (fun _=>rfl) rfl fun S0=>?_
 have hbr:=fun st=>q3y text st hl
 unfold kh q2a
 by_cases hb:(jv text).1 = .no
 ·have hBk:=qo3 hb
  have hpr:jt (jv text).2.base = .no:=(qjc (text:=text) (b:=(jv text).2) (by rw [← hb])).parse
  simp only [if_pos hb]
  unfold qce at hbr
  rw [hb] at hbr
  generalize (jv text).2=b at hbr hBk hpr
  have hof:=fun st=>zat b st hBk
  have hlr:lR b b.batches.length=(wq b.base b.batches).2.l:=by unfold lR;rw [if_pos hpr,List.take_length]
  rw [hlr] at hof
  have hcd:=@qts b.base b.batches
  generalize wq b.base b.batches=p at hof hcd
  obtain⟨e,r⟩:=p
  dsimp only at hof hcd ⊢
  by_cases he:e = .no
  ·subst he
   rw [if_pos rfl]
   apply qe []
   repeat' (first|apply And.intro|(intro h;try exact cDd)|exact⟨Tryz.call20⟩|refine cpe hbr ?_|exact⟨Tryz.call51⟩|refine cpe hof ?_|exact cSd|apply qc []|refine exr ?_|refine qi ?_)
  ·have hcd:=hcd he
   simp only [if_neg he]
   generalize e.code=c at hof hcd
   generalize e.pos=c2 at hof
   unfold qai
   apply qe []
   repeat' (first|apply And.intro|(intro h;try exact cDd)|exact⟨Tryz.call20⟩|refine cpe hbr ?_|exact⟨Tryz.call51⟩|refine cpe hof ?_|exact cSd|apply qc []|refine exr ?_|refine qi ?_)
 ·have hcd:=qsk hb
  simp only [if_neg hb]
  unfold qce at hbr
  generalize (jv text).1.code=c at hbr hcd
  generalize (jv text).1.pos=c2 at hbr
  unfold qai
  apply qe []
  repeat' (first|apply And.intro|(intro h;try exact cDd)|exact⟨Tryz.call20⟩|refine cpe hbr ?_|exact cSd|apply qc []|refine exr ?_|refine qi ?_)
def qyi:Bytes:=[65,58,32,49,10]
def qr5:List qu:=[⟨2,1,[]⟩]
theorem qt7 (text:Bytes):LB 860000 (kh text).2.2∧LI (kh text).2.2:=by
 have h0:LB 860000 (ofF [])∧LI (ofF []):=⟨⟨by omega,by simp [ofF],by simp [ofF],by simp [ofF],by simp [ofF],by simp [ofF]⟩,by simp [ofF,LI]⟩
 unfold kh
 split
 ·rename_i hb
  have hBk:=qo3 hb
  split
  ·have:=q1p (jv text).2.base (jv text).2.batches hBk.len
   exact⟨this.1,this.2.2⟩
  ·exact h0
 ·exact h0
theorem zh3 {e:ErrV} (h:e≠.no→e.code≠0):okE e:=by
 cases e with
 |no=>trivial
 |num n=>exact h (by simp)
 |at' a n=>exact h (by simp)
theorem qqs {text:Bytes} (h:(kh text).1≠.no):(kh text).1.code≠0:=by
 unfold kh at h ⊢
 split
 ·rename_i hb
  rw [if_pos hb] at h
  split
  ·rename_i hp
   rw [if_pos hp] at h
   exact absurd rfl h
  ·rename_i hp
   exact qts hp
 ·rename_i hb
  exact qsk hb
end Go.Proofs.YtmoklbacdkmkaaaGreatDoor
namespace Go.Pl
open Go Go.Proofs Go.Proofs.YtmoklbacdkmkaaaGreatDoor
theorem qv9:∀ (k n:Nat) (l:Bytes),l.length≤k→l.length≤n→∃ j,j≤l.length∧z0 n l=n - l.length+j∧BegP (l.drop j)
 | 0,n,l,h,hn=>by
  have:l=[]:=List.length_eq_zero_iff.1 (by omega)
  subst this
  exact⟨0,by simp,by rw [qc1];simp,.inl (by simp)⟩
 |k+1,n,l,h,hn=>by
  by_cases hl:l=[]
  ·subst hl
   exact⟨0,by simp,by rw [qc1];simp,.inl (by simp)⟩
  ·by_cases hb:begF (upto 10 l)=true
   ·exact⟨0,by omega,by rw [qge hl hb];rfl,.inr hb⟩
   ·have hlt:=wy (c:=10) hl
    have hpl:=km 10 l
    obtain⟨j,h1,h2,h3⟩:=qv9 k n (past 10 l) (by omega) (by omega)
    refine⟨l.length - (past 10 l).length+j,by omega,by rw [qhr hl hb,h2];omega,?_⟩
    have e:past 10 l=l.drop (l.length - (past 10 l).length):=by
     by_cases hm:(upto 10 l).length+1≤l.length
     ·rw [show l.length - (past 10 l).length=(upto 10 l).length+1 by omega]
      rfl
     ·have h0:(past 10 l).length=0:=by omega
      rw [List.eq_nil_of_length_eq_zero h0]
      simp
    rw [← List.drop_drop,← e]
    exact h3
theorem q18 (text:Bytes):atH text≤(xb text).length∧BegP ((xb text).drop (atH text)):=by
 obtain⟨j,h1,h2,h3⟩:=qv9 _ _ (xb text) (Nat.le_refl _) (Nat.le_refl _)
 have:atH text=j:=by
  unfold atH
  omega
 rw [this]
 exact⟨h1,h3⟩
theorem q7z (text:Bytes):text=wm (vh text).1++(y4 text++(xb text).drop (atH text)):=by
 unfold y4
 rw [List.take_append_drop]
 exact (qdj text).1
end Go.Pl
namespace Go.Proofs.YtmoklbacdkmkaaaGreatDoor
open Go Go.Av Go.Proofs Go.Pl
def okP:List (List qu)→zg→Prop
 | [],_=>True
 |b::q,l=>(doF l b).1 = .no∧okP q (doF l b).2.1
theorem qoy:∀ (bs:List (List qu)) (r:RunV),(v7 bs r).1 = .no↔okP bs r.l
 | [],r=>by simp [v7,okP]
 |b::q,r=>by
  unfold v7 okP
  split
  ·rename_i h
   rw [qoy q (qaz r b)]
   simp [qaz,h]
  ·rename_i h
   simp [h]
theorem zaf {base:Bytes} (bs:List (List qu)) (h:jt base = .no):(wq base bs).1 = .no↔okP bs (ofF (itsE base)):=by
 unfold wq
 rw [if_pos h]
 exact qoy bs _
def qbb:Nat→zg→Bytes→Nat
 | 0,_,_=>0
 |f+1,l,t=>if (zb t).1=1 then match decF (zb t).2.1 with
   |some b=>if (doF l b).1 = .no then (zb t).2.2.toNat+qbb f (doF l b).2.1 (t.drop (zb t).2.2.toNat) else 0
   |none=>0
  else 0
theorem q4a {t:Bytes} (h:(zb t).1≠1):∀ (f:Nat) (l:zg),qbb f l t=0
 | 0,_=>rfl
 |f+1,l=>by rw [qbb,if_neg h]
theorem que:∀ (f:Nat) (l:zg) (t:Bytes),∃ bs r,t=wc bs++r∧qbb f l t=(wc bs).length∧(∀ b∈bs,qf9 b)∧okP bs l
 | 0,l,t=>⟨[],t,by simp [wc],by simp [qbb,wc],by simp,trivial⟩
 |f+1,l,t=>by
  have none':qbb (f+1) l t=0→∃ bs r,t=wc bs++r∧qbb (f+1) l t=(wc bs).length∧(∀ b∈bs,qf9 b)∧okP bs l:=fun h=>⟨[],t,by simp [wc],by rw [h];simp [wc],by simp,trivial⟩
  by_cases h1:(zb t).1=1
  ·cases hd:decF (zb t).2.1 with
   |none=>exact none' (by rw [qbb,if_pos h1,hd])
   |some b=>
    by_cases ho:(doF l b).1 = .no
    ·obtain⟨hg,he⟩:=qq9 hd
     have hrd:zb t=(1,(zb t).2.1,(zb t).2.2):=by rw [← h1]
     obtain⟨_,m,hm,hn⟩:=qip hrd
     rw [← he] at hm hn
     have hm':t=recE b++m:=hm
     have hn':(zb t).2.2=((recE b).length:Int):=hn
     have hdr:t.drop (recE b).length=m:=by
      conv=>lhs;rw [hm']
      rw [List.drop_left]
     obtain⟨bs,r,e1,e2,e3,e4⟩:=que f (doF l b).2.1 m
     refine⟨b::bs,r,by rw [qb2,List.append_assoc,← e1];exact hm',?_,fun x hx=>?_,ho,e4⟩
     ·rw [qbb,if_pos h1,hd]
      simp only
      rw [if_pos ho,hn',Int.toNat_natCast,hdr,e2,qb2,List.length_append]
     ·rcases List.mem_cons.1 hx with rfl|hx
      ·exact hg
      ·exact e3 x hx
    ·exact none' (by rw [qbb,if_pos h1,hd];simp only;rw [if_neg ho])
  ·exact none' (q4a h1 _ _)
def qgp (text:Bytes):Int×Int:=match (kh text).1 with
 | .no=>(if (kh text).2.1.tail=[] then 1 else 2,0)
 | .num n=>(if n=10 then 3 else 4,-1)
 | .at' a n=>(if n=10 then 3 else 4,a)
def qug (text:Bytes):Nat:=qbb (text.length+1) (ofF (itsE (y4 text))) ((xb text).drop (atH text))
def q63 (text:Bytes):Bytes:=if (qgp text).1=4 then [] else if jt (y4 text) = .no then text.take ((wm (vh text).1).length+atH text+qug text) else []
theorem q8m (text:Bytes):(y4 text).length=atH text:=by
 have:=(q18 text).1
 unfold y4
 simp
 omega
theorem qxj {text:Bytes} (h:(kh text).1 = .no):qbc text (kh text).2.1∧okP (kh text).2.1.batches (ofF (itsE (kh text).2.1.base)):=by
 unfold kh at h ⊢
 split
 ·rename_i hb
  rw [if_pos hb] at h
  have hT:=qjc (text:=text) (b:=(jv text).2) (by rw [← hb])
  split
  ·rename_i hp
   exact⟨hT,(zaf _ hT.parse).1 hp⟩
  ·rename_i hp
   rw [if_neg hp] at h
   exact absurd h hp
 ·rename_i hb
  rw [if_neg hb] at h
  exact absurd h hb
end Go.Proofs.YtmoklbacdkmkaaaGreatDoor
namespace Go.Pl
open Go
def i64 (n:Int):Prop:= -9223372036854775808≤n∧n≤9223372036854775807
structure RepV where
 gen:Int
 stanzas:Int
 remarks:Int
 blanks:Int
 records:Int
 live:Int
 bytes:Int
 base:Int
 tail:Int
 text:Int
end Go.Pl
namespace Go.Proofs.YtmoklbacdkmkaaaGreatDoor
open Go Go.Av Go.RowKit Go.Proofs Go.Pl
@[reducible] def repA (r : RepV) : AV := .ag [Iv r.gen, Iv r.stanzas, Iv r.remarks, Iv r.blanks, Iv r.records, Iv r.live, Iv r.bytes, Iv r.base, Iv r.tail, Iv r.text]
theorem qxi (r:RepV):Pure (repA r):=yz fun y hy=>by
 simp only [AV.cells,List.mem_cons,List.not_mem_nil,or_false] at hy
 rcases hy with rfl|rfl|rfl|rfl|rfl|rfl|rfl|rfl|rfl|rfl <;> exact qs _
theorem qzv (a n:Int) {b nx:Nat} {H:Nat→Option SR} (hH:H b=some (.cells 101 [.a (.v (.pointer none))])):vn E 85 [.a (.ifc 101 (.pp [Iv a,.ifc 76 (Iv n)])),.ifc 165 (.bx b 0)] nx H ⟨.b true,[b],[(b,some (.cells 101 [.a (.pp [Iv a,.ifc 76 (Iv n)])]))],nx⟩:=
 q4p (r0:=Bv true) hH fun ρ S o hρ hS=>by
  have h:=q4k a n o S hS
  simp only [SV.evs,SV.ev,hρ,bxAt]
  exact h
theorem qwe (n:Int) {b nx:Nat} {H:Nat→Option SR} (hH:H b=some (.cells 101 [.a (.v (.pointer none))])):vn E 85 [.a (.ifc 76 (Iv n)),.ifc 165 (.bx b 0)] nx H ⟨.b false,[b],[(b,some (.cells 101 [.a (.v (.pointer none))]))],nx⟩:=
 q4p (r0:=Bv false) hH fun ρ S o hρ hS=>by
  have h:=qzh n o S hS
  have e:S.set o (.cells 0 101 [.v (.pointer none)])=S:=by
   refine List.ext_getElem? fun i=>?_
   by_cases hi:o=i
   ·subst hi
    rw [List.getElem?_set_self (lt_of_getElem? hS),hS]
    try rfl
   ·rw [List.getElem?_set_ne hi]
  simp only [SV.evs,SV.ev,hρ,bxAt]
  refine h.mono ?_
  rintro r S' ⟨rfl,rfl⟩
  exact⟨rfl,e.symm⟩
theorem qzi (text:Bytes) (st:List AObj) (hl:text.length<1000000):qp E 41 [Sv text] st fun r st'=>r = .tu [Iv (qgp text).1,Iv (qgp text).2]∧st'=st:=by
 refine zl [.s text] (kj (qs _) (qs _)) Tryz.func41 rfl rfl (fun _=>rfl) rfl fun S0=>?_
 have hrt:=fun st=>q5j text st hl
 unfold qo2 at hrt
 unfold qgp
 generalize kh text=q at hrt
 obtain⟨e,b,l⟩:=q
 cases e with
 |no=>
  dsimp only at hrt ⊢
  by_cases ht:b.tail=[]
  ·rw [if_pos ht]
   apply qe [4]
   repeat' (first|apply And.intro|(intro h;try exact cDd)|exact⟨Tryz.call12⟩|refine cpe hrt ?_|exact absurd ht (by assumption)|exact cSd|apply qc [4]|refine exr ?_|refine qi ?_)
  ·rw [if_neg ht]
   apply qe [4]
   repeat' (first|apply And.intro|(intro h;try exact cDd)|exact⟨Tryz.call12⟩|refine cpe hrt ?_|exact absurd ht (by assumption)|exact cSd|apply qc [4]|refine exr ?_|refine qi ?_)
 |num n=>
  dsimp only at hrt ⊢
  have his:=fun st=>zhk n 10 st
  by_cases h10:n=10
  ·rw [decide_eq_true h10] at his
   rw [if_pos h10]
   apply qe [4,9]
   repeat' (first|apply And.intro|(intro h;try exact cDd)|exact⟨Tryz.call12⟩|refine cpe hrt ?_|exact⟨Tryz.call84⟩|refine cpe his ?_|exact⟨Tryz.call85⟩|(refine Exists.intro _ ⟨qwe n rfl,?_⟩)|exact cSd|apply qc [4,9]|refine exr ?_|refine qi ?_)
  ·rw [decide_eq_false h10] at his
   rw [if_neg h10]
   apply qe [4,9]
   repeat' (first|apply And.intro|(intro h;try exact cDd)|exact⟨Tryz.call12⟩|refine cpe hrt ?_|exact⟨Tryz.call84⟩|refine cpe his ?_|exact⟨Tryz.call85⟩|(refine Exists.intro _ ⟨qwe n rfl,?_⟩)|exact cSd|apply qc [4,9]|refine exr ?_|refine qi ?_)
 |at' a n=>
  dsimp only at hrt ⊢
  have his:=fun st=>zhj a n 10 st
  by_cases h10:n=10
  ·rw [decide_eq_true h10] at his
   rw [if_pos h10]
   apply qe [4,9]
   repeat' (first|apply And.intro|(intro h;try exact cDd)|exact⟨Tryz.call12⟩|refine cpe hrt ?_|exact⟨Tryz.call84⟩|refine cpe his ?_|exact⟨Tryz.call85⟩|(refine Exists.intro _ ⟨qzv a n rfl,?_⟩)|exact cSd|apply qc [4,9]|refine exr ?_|refine qi ?_)
  ·rw [decide_eq_false h10] at his
   rw [if_neg h10]
   apply qe [4,9]
   repeat' (first|apply And.intro|(intro h;try exact cDd)|exact⟨Tryz.call12⟩|refine cpe hrt ?_|exact⟨Tryz.call84⟩|refine cpe his ?_|exact⟨Tryz.call85⟩|(refine Exists.intro _ ⟨qzv a n rfl,?_⟩)|exact cSd|apply qc [4,9]|refine exr ?_|refine qi ?_)
theorem zby (text:Bytes) (st:List AObj) (hl:text.length<1000000):qp E 86 [Sv text] st fun r st'=>r=Iv ((z0 text.length text:Nat):Int)∧st'=st:=by
 refine zl [.s text] (qs _) Tryz.func86 rfl rfl (fun _=>rfl) rfl fun S0=>?_
 apply qe []
 repeat' (first|apply And.intro|(intro h;try exact cDd)|exact⟨Tryz.call100⟩|(refine Exists.intro _ ⟨qiv _,?_⟩)|exact cSd|apply qc []|refine exr ?_|refine qi ?_)
 refine qei (X:=Int) text 1 2 [0,1] (fun r=>⟨[(0,.s text),(2,.bx 0 0),(5,.fn (.func 163) [] [.bx 1 0])],[(0,some (.cells 3 [.i r])),(1,some (.cells 9 [.s text]))],2⟩) _
  (fun k rest r=>r=0∧rest.length≤text.length∧z0 text.length text=z0 text.length rest) (fun c r=>c = .ret∧r=((z0 text.length text:Nat):Int)) 0 ⟨rfl,by omega,rfl⟩ ?_ id (by omega) (fun _=>rfl) rfl (fun _=>rfl) (fun _=>rfl) rfl ?_ ?_ ?_
 ·skip
  repeat' (first|apply And.intro|(intro h;try exact cDd)|exact cSd|apply qc []|refine exr ?_|refine qi ?_)
 ·rintro k rest r ⟨rfl,hrl,hbeg⟩ hne hle
  have hu:=ko 10 rest
  have hpl:=km 10 rest
  have hbg:=fun st=>q8o (upto 10 rest) _ st (by omega) rfl
  unfold qkt
  by_cases hb:begF (upto 10 rest)=true
  ·rw [hb] at hbg
   have hv:((text.length:Int) - rest.length)=((z0 text.length text:Nat):Int):=by
    rw [hbeg,qge hne hb]
    omega
   refine RA.mk fun S F ρ rd=>?_
   apply qe []
   repeat' (first|apply And.intro|(intro h;try exact cDd)|(refine RB.mk fun S rd=>?_;apply qe [])|exact⟨Tryz.call101⟩|refine cpe hbg ?_|(refine Exists.intro _ ⟨⟨rfl,hv⟩,?_⟩)|exact cSd|apply qc []|refine exr ?_|refine qi ?_)
  ·have hb':begF (upto 10 rest)=false:=by simpa using hb
   rw [hb'] at hbg
   refine RA.mk fun S F ρ rd=>?_
   apply qe []
   repeat' (first|apply And.intro|(intro h;try exact cDd)|(refine RB.mk fun S rd=>?_;apply qe [])|exact⟨Tryz.call101⟩|refine cpe hbg ?_|(refine Exists.intro 0 ⟨⟨rfl,by omega,by rw [hbeg,qhr hne (by rw [hb'];decide)]⟩,?_⟩)|exact cSd|apply qc []|refine exr ?_|refine qi ?_)
 ·rintro k r ⟨rfl,hrl,hbeg⟩
  rw [qc1] at hbeg
  rw [hbeg]
  repeat' (first|apply And.intro|(intro h;try exact cDd)|exact cSd|apply qc []|refine exr ?_|refine qi ?_)
 ·rintro c r ⟨rfl,rfl⟩
  repeat' (first|apply And.intro|(intro h;try exact cDd)|exact cSd|apply qc []|refine exr ?_|refine qi ?_)
theorem zb7 (l0:zg) (text:Bytes) (st:List AObj) (hB:LB 300000 l0) (hl:text.length≤100000) (f0:Nat) (hf0:text.length<f0):qp E 88 [y5 l0,Sv text] st fun r st'=>r=Iv (qbb f0 l0 text:Nat)∧st'=st:=by
 refine zl [.a (y5 l0),.s text] (qs _) Tryz.func88 rfl rfl (fun _=>rfl) rfl fun S0=>?_
 generalize htot:qbb f0 l0 text=tot
 apply qe []
 repeat' (first|apply And.intro|(intro h;try exact cDd)|exact cSd|apply qc []|refine exr ?_|refine qi ?_)
 refine jf (X:=Nat×zg) (fun (k,l)=>⟨[(0,.a (y5 l)),(1,.s text),(5,.i k)],[],0⟩) (fun (k,l)=>k≤text.length∧LB (300000+5 * k) l∧∃ f,(text.drop k).length<f∧k+qbb f l (text.drop k)=tot) (fun (k,l)=>text.length - k) (0,l0) ⟨by omega,hB,f0,by simpa using hf0,by simpa using htot⟩ ?_ ?_
 ·skip
  repeat' (first|apply And.intro|(intro h;try exact cDd)|exact cSd|apply qc []|refine exr ?_|refine qi ?_)
 ·rintro⟨k,l⟩ ⟨hk,hq,f,hf,hrun⟩
  have hdl:(text.drop k).length=text.length - k:=by simp
  have hrd:=fun st=>zak (text.drop k) st (by omega)
  have hbl:=qh4 (l:=text.drop k)
  have hdc:=fun st=>qzz (zb (text.drop k)).2.1 st (by omega)
  cases f with
  |zero=>omega
  |succ f=>
   rw [qbb] at hrun
   by_cases h1:(zb (text.drop k)).1=1
   ·rw [if_pos h1] at hrun
    have hrs:zb (text.drop k)=(1,(zb (text.drop k)).2.1,(zb (text.drop k)).2.2):=by rw [← h1]
    rw [h1] at hrd
    cases hd:decF (zb (text.drop k)).2.1 with
    |none=>
     rw [hd] at hrun hdc
     generalize (zb (text.drop k)).2.1=body at hrd hdc
     generalize (zb (text.drop k)).2.2=n at hrd
     have hrun':k=tot:=by simpa using hrun
     subst hrun'
     apply qe []
     repeat' (first|apply And.intro|(intro h;try exact cDd)|exact⟨Tryz.call104⟩|refine cpe hrd ?_|exact⟨Tryz.call105⟩|refine cpe hdc ?_|exact cSd|apply qc []|refine exr ?_|refine qi ?_)
    |some b=>
     rw [hd] at hrun hdc
     obtain⟨_,m,hm,hn⟩:=qip hrs
     obtain⟨hg,he⟩:=qq9 hd
     rw [← he] at hm hn
     have hm':text.drop k=recE b++m:=hm
     have hn':(zb (text.drop k)).2.2=((recE b).length:Int):=hn
     have h9:=qxb b
     have hml:=congrArg List.length hm'
     rw [hdl,List.length_append] at hml
     have hgl:=(qck hg.ok).2.1
     have hdo:=fun st=>q6q (300000+5 * k) l b st hq (by omega) hg.B (by omega)
     have hdr:(text.drop k).drop (recE b).length=text.drop (k+(recE b).length):=List.drop_drop ..
     rw [hn',Int.toNat_natCast,hdr] at hrun
     rw [hn'] at hrd
     generalize (zb (text.drop k)).2.1=body at hrd hdc
     have hlb:=qst hq (by omega) b
     unfold doA at hdo
     dsimp only at hrun
     generalize doF l b=r at hdo hrun hlb
     obtain⟨e,l',ids⟩:=r
     dsimp only at hdo hrun hlb
     cases e with
     |no=>
      rw [if_pos rfl] at hrun
      have hlb':=qd9 hlb (m:=300000+5 * (k+(recE b).length)) (by omega) (by omega)
      apply qe []
      repeat' (first|apply And.intro|(intro h;try exact cDd)|exact⟨Tryz.call104⟩|refine cpe hrd ?_|exact⟨Tryz.call105⟩|refine cpe hdc ?_|exact⟨Tryz.call27⟩|refine cpe hdo ?_|(refine Exists.intro (k+(recE b).length,l') ⟨⟨by omega,hlb',f,by simp;omega,by omega⟩,by simp only;omega,?_⟩)|exact cSd|apply qc []|refine exr ?_|refine qi ?_)
     |num m=>
      rw [if_neg (by simp)] at hrun
      have hrun':k=tot:=by simpa using hrun
      subst hrun'
      apply qe []
      repeat' (first|apply And.intro|(intro h;try exact cDd)|exact⟨Tryz.call104⟩|refine cpe hrd ?_|exact⟨Tryz.call105⟩|refine cpe hdc ?_|exact⟨Tryz.call27⟩|refine cpe hdo ?_|exact cSd|apply qc []|refine exr ?_|refine qi ?_)
     |at' a m=>
      rw [if_neg (by simp)] at hrun
      have hrun':k=tot:=by simpa using hrun
      subst hrun'
      apply qe []
      repeat' (first|apply And.intro|(intro h;try exact cDd)|exact⟨Tryz.call104⟩|refine cpe hrd ?_|exact⟨Tryz.call105⟩|refine cpe hdc ?_|exact⟨Tryz.call27⟩|refine cpe hdo ?_|exact cSd|apply qc []|refine exr ?_|refine qi ?_)
   ·rw [if_neg h1] at hrun
    have hrun':k=tot:=by simpa using hrun
    subst hrun'
    generalize (zb (text.drop k)).1=c at hrd h1
    generalize (zb (text.drop k)).2.1=body at hrd hdc
    generalize (zb (text.drop k)).2.2=n at hrd
    cases hd:decF body with
    |none=>
     rw [hd] at hdc
     apply qe []
     repeat' (first|apply And.intro|(intro h;try exact cDd)|exact⟨Tryz.call104⟩|refine cpe hrd ?_|exact⟨Tryz.call105⟩|refine cpe hdc ?_|exact cSd|apply qc []|refine exr ?_|refine qi ?_)
    |some b=>
     rw [hd] at hdc
     apply qe []
     repeat' (first|apply And.intro|(intro h;try exact cDd)|exact⟨Tryz.call104⟩|refine cpe hrd ?_|exact⟨Tryz.call105⟩|refine cpe hdc ?_|exact cSd|apply qc []|refine exr ?_|refine qi ?_)
theorem zey (text:Bytes) (st:List AObj) (hl:text.length≤100000):qp E 42 [Sv text] st fun r st'=>r=Sv (q63 text)∧st'=st:=by
 refine zl [.s text] (qs _) Tryz.func42 rfl rfl (fun _=>rfl) rfl fun S0=>?_
 have hst:=fun st=>qzi text st (by omega)
 unfold q63
 by_cases h4:(qgp text).1=4
 ·rw [if_pos h4]
  rw [h4] at hst
  generalize (qgp text).2=at2 at hst
  apply qe []
  repeat' (first|apply And.intro|(intro h;try exact cDd)|exact⟨Tryz.call41⟩|refine cpe hst ?_|exact cSd|apply qc []|refine exr ?_|refine qi ?_)
 ·rw [if_neg h4]
  have hht:=fun st=>q4z text st (by omega)
  have hsp:=q7z text
  have hspl:=congrArg List.length hsp
  simp only [List.length_append] at hspl
  have hrl:(xb text).length≤text.length:=by
   have:=(qdj text).1
   have:=congrArg List.length this
   simp at this
   unfold xb
   omega
  have hbg:=fun st=>zby (xb text) st (by omega)
  have hat:=(q18 text).1
  have hbl:=q8m text
  have hlo:=fun st=>q0w (y4 text) st (by omega)
  have hhl:=fun st=>q9r (vh text).1 st
  have htk:=fun (st:List AObj)=>zb7 (ofF (itsE (y4 text))) ((xb text).drop (atH text)) st (qto _) (by simp;omega) (text.length+1) (by simp;omega)
  have htl:(wm (vh text).1).length+atH text+qug text≤text.length:=by
   obtain⟨bs,r,e1,e2,_⟩:=que (text.length+1) (ofF (itsE (y4 text))) ((xb text).drop (atH text))
   have h1:=congrArg List.length e1
   simp only [List.length_append] at h1
   have e2':qug text=(wc bs).length:=e2
   rw [h1] at hspl
   omega
  replace htk:∀ st,qp E 88 [y5 (ofF (itsE (y4 text))),Sv ((xb text).drop (atH text))] st fun r st'=>r=Iv (qug text:Nat)∧st'=st:=htk
  replace hht:∀ st,qp E 56 [Sv text] st fun r st'=>r = .tu [Iv (vh text).1,Sv (xb text)]∧st'=st:=hht
  replace hbg:∀ st,qp E 86 [Sv (xb text)] st fun r st'=>r=Iv (atH text:Nat)∧st'=st:=hbg
  replace hlo:∀ st,qp E 87 [Sv ((xb text).take (atH text))] st fun r st'=>r=qon (jt (y4 text)) (ofF (itsE (y4 text)))∧st'=st:=hlo
  generalize qug text=tk at *
  generalize xb text=rest at *
  generalize atH text=at1 at *
  generalize (vh text).1=gen at *
  generalize (qgp text).1=kd at *
  generalize (qgp text).2=at2 at *
  generalize y4 text=base at *
  generalize ofF (itsE base)=l at *
  cases he:jt base with
  |no=>
   rw [he] at hlo
   rw [if_pos rfl]
   apply qe []
   repeat' (first|apply And.intro|(intro h;try exact cDd)|exact⟨Tryz.call41⟩|refine cpe hst ?_|exact⟨Tryz.call56⟩|refine cpe hht ?_|exact⟨Tryz.call86⟩|refine cpe hbg ?_|exact⟨Tryz.call87⟩|refine cpe hlo ?_|exact⟨Tryz.call77⟩|refine cpe hhl ?_|exact⟨Tryz.call88⟩|refine cpe htk ?_|exact cSd|apply qc []|refine exr ?_|refine qi ?_)
  |num m=>
   rw [he] at hlo
   rw [if_neg (by simp)]
   apply qe []
   repeat' (first|apply And.intro|(intro h;try exact cDd)|exact⟨Tryz.call41⟩|refine cpe hst ?_|exact⟨Tryz.call56⟩|refine cpe hht ?_|exact⟨Tryz.call86⟩|refine cpe hbg ?_|exact⟨Tryz.call87⟩|refine cpe hlo ?_|exact cSd|apply qc []|refine exr ?_|refine qi ?_)
  |at' a m=>
   rw [he] at hlo
   rw [if_neg (by simp)]
   apply qe []
   repeat' (first|apply And.intro|(intro h;try exact cDd)|exact⟨Tryz.call41⟩|refine cpe hst ?_|exact⟨Tryz.call56⟩|refine cpe hht ?_|exact⟨Tryz.call86⟩|refine cpe hbg ?_|exact⟨Tryz.call87⟩|refine cpe hlo ?_|exact cSd|apply qc []|refine exr ?_|refine qi ?_)
end Go.Proofs.YtmoklbacdkmkaaaGreatDoor
namespace Go.Pl
open Go Go.Proofs
def qay (c:Int×Int×Int) (x:zv):Int×Int×Int:=if x.kind=3 then (c.1+1,c.2.1,c.2.2) else if x.kind=2 then (c.1,c.2.1+1,c.2.2) else (c.1,c.2.1,c.2.2+1)
def rep0:RepV:=⟨0,0,0,0,0,0,0,0,0,0⟩
end Go.Pl
namespace Go.Proofs.YtmoklbacdkmkaaaGreatDoor
open Go Go.Av Go.RowKit Go.Proofs Go.Pl
def qr6:List qu:=[⟨3,0,[([66],[50,50])]⟩]
def qib:Bytes:=(Go.Pl.appF qyi qr5).2
def qez:Bytes:=(Go.Pl.appF qib qr6).2
theorem q79 (st:List AObj):qp E 40 [] st fun r st'=>r=Bv true∧st'=st:=by
 have hap:=fun st=>q8l qyi qr5 st (by decide) (by simp [qr5];exact⟨by simp [KeyB],by simp,by simp,by simp⟩) (by decide)
 have hap2:=fun st=>q8l qib qr6 st (by decide +kernel) (by simp [qr6];exact⟨by simp [KeyB],by simp,by simp,by simp⟩) (by decide)
 have h1:(Go.Pl.appF qyi qr5).1 = .no:=by decide +kernel
 have h2:(Go.Pl.appF qib qr6).1 = .no:=by decide +kernel
 have h3:qib.length+40≤qez.length∧qez.length≤200∧qib.length≤100:=by decide +kernel
 have h4:qgp (qez.set (qez.length - 12) (qez.getD (qez.length - 12) 0 ^^^ 1))=(3,1):=by decide +kernel
 have h5:q63 (qez.set (qez.length - 12) (qez.getD (qez.length - 12) 0 ^^^ 1))=qib:=by decide +kernel
 rw [h1] at hap
 rw [h2] at hap2
 have hap':∀ st,qp E 28 [Sv qyi,jg qr5] st fun r st'=>r = .tu [Sv qib,errA .no]∧st'=st:=hap
 have hap2':∀ st,qp E 28 [Sv qib,jg qr6] st fun r st'=>r = .tu [Sv qez,errA .no]∧st'=st:=hap2
 clear hap hap2 h1 h2
 generalize qib=s at *
 generalize qez=t at *
 obtain⟨i,hi⟩:∃ i,i+12=t.length:=⟨t.length - 12,by omega⟩
 have hi2:t.length - 12=i:=by omega
 rw [hi2] at h4 h5
 have hz:t[i]? = some (t.getD i 0):=by rw [List.getD,List.getElem?_eq_getElem (by omega)];rfl
 generalize t.getD i 0=z at *
 have hlen:(t.set i (z ^^^ 1)).length=t.length:=List.length_set
 have hs:=fun st=>qzi (t.set i (z ^^^ 1)) st (by omega)
 have hl:=fun st=>zey (t.set i (z ^^^ 1)) st (by omega)
 rw [h4] at hs
 rw [h5] at hl
 refine zl [] (qs _) Tryz.func40 rfl rfl (fun _=>rfl) rfl fun S0=>?_
 apply qe []
 repeat' (first|apply And.intro|(intro h;try exact cDd)|exact⟨Tryz.call28⟩|refine cpe hap' ?_|exact⟨Tryz.call28⟩|refine cpe hap2' ?_|(refine zgl rfl (by omega) rfl rfl rfl ?_)|(refine zgk rfl rfl rfl ⟨_,rfl⟩ ?_)|(refine zd4 (i:=i) rfl rfl rfl (congrArg (fun x=>some (IntKind.i64,x)) (by omega)) rfl rfl (by omega) ?_)|(refine zd5 rfl rfl rfl hz ?_)|(refine zgn (a:=z) (b:=1) rfl (fun _=>rfl) rfl (fun _=>rfl) ?_)|(refine zaz (z:=z ^^^ 1) rfl rfl (fun _=>rfl) rfl rfl (by omega) ?_)|(refine zgm rfl rfl rfl rfl rfl ?_)|exact⟨Tryz.call41⟩|refine cpe hs ?_|exact⟨Tryz.call42⟩|refine cpe hl ?_|exact cSd|apply qc []|refine exr ?_|refine qi ?_)
 all_goals (simp;done)
def qtj (text:Bytes):RepV:=if (kh text).1 = .no then
  ⟨(kh text).2.1.gen,((itsE (kh text).2.1.base).foldl qay (0,0,0)).1,((itsE (kh text).2.1.base).foldl qay (0,0,0)).2.1,((itsE (kh text).2.1.base).foldl qay (0,0,0)).2.2,(kh text).2.1.batches.length,(kh text).2.2.many,text.length,(kh text).2.1.base.length,(kh text).2.1.tail.length,(qiw (kh text).2.2).length⟩
 else rep0
theorem za0 (text:Bytes):LM (kh text).2.2:=by
 have h0:LM (ofF []):=by simp [ofF,LM,cntF]
 unfold kh
 split
 ·rename_i hb
  have hBk:=qo3 hb
  split
  ·exact (q1p (jv text).2.base (jv text).2.batches hBk.len).2.1
  ·exact h0
 ·exact h0
set_option maxHeartbeats 4000000 in
theorem zez (text:Bytes) (st:List AObj) (hl:text.length<1000000):qp E 48 [Sv text] st fun r st'=>r = .tu [repA (qtj text),errA (kh text).1]∧st'=st:=by
 refine zl [.s text] (kj (qxi _) (vl _)) Tryz.func48 rfl rfl (fun _=>rfl) rfl fun S0=>?_
 have hrt:=fun st=>q5j text st hl
 have hinv:=@qxj text
 obtain⟨hB,hI⟩:=qt7 text
 unfold qo2 at hrt
 unfold qtj
 generalize kh text=q at *
 obtain⟨e,b,l⟩:=q
 cases e with
 |num n=>
  dsimp only at hrt ⊢
  rw [if_neg (by simp)]
  unfold rep0
  apply qe []
  repeat' (first|apply And.intro|(intro h;try exact cDd)|exact⟨Tryz.call12⟩|refine cpe hrt ?_|exact cSd|apply qc []|refine exr ?_|refine qi ?_)
 |at' a n=>
  dsimp only at hrt ⊢
  rw [if_neg (by simp)]
  unfold rep0
  apply qe []
  repeat' (first|apply And.intro|(intro h;try exact cDd)|exact⟨Tryz.call12⟩|refine cpe hrt ?_|exact cSd|apply qc []|refine exr ?_|refine qi ?_)
 |no=>
  dsimp only at hrt hinv hB hI ⊢
  rw [if_pos rfl]
  obtain⟨hT,_⟩:=hinv rfl
  have hBk:=qme hT
  have hbl:=hBk.len
  have hp:=fun st=>qo5 b.base st hBk.base
  rw [hT.parse] at hp
  have hll:=fun st=>zhw l st
  have hlt:=fun st=>zf6 l st (zfw hB hI) (qne hB hI)
  have htl:=qne hB hI
  have hil:=qjk b.base
  have hmb:(b.batches.map jg).length=b.batches.length:=by simp
  have htail:b.tail.length≤text.length:=by
   have:=congrArg List.length hT.txt
   simp at this
   omega
  have hbb:=hBk.base
  generalize qiw l=tl at *
  generalize itsE b.base=its at *
  have hmi:(its.map z6).length=its.length:=by simp
  apply qe []
  repeat' (first|apply And.intro|(intro h;try exact cDd)|exact⟨Tryz.call12⟩|refine cpe hrt ?_|exact⟨Tryz.call58⟩|refine cpe hp ?_|exact⟨Tryz.call50⟩|refine cpe hll ?_|exact⟨Tryz.call16⟩|refine cpe hlt ?_|exact cSd|apply qc []|refine exr ?_|refine qi ?_)
  refine jf (X:=Nat×Int×Int×Int) (fun (k,s,r,bl)=>⟨[(2,.bx 0 0),(8,.bx 1 0),(50,.a (js its)),(51,.i its.length),(52,.i k)],[(0,some (.cells 87 [.i 0,.i 0,.i 0,.i 0,.i 0,.i 0,.i 0,.i 0,.i 0,.i 0])),(1,some (.cells 87 [.i b.gen,.i s,.i r,.i bl,.i b.batches.length,.i l.many,.i text.length,.i b.base.length,.i b.tail.length,.i tl.length]))],2⟩)
   (fun (k,s,r,bl)=>k≤its.length∧(0≤s∧s≤k∧0≤r∧r≤k∧0≤bl∧bl≤k)∧(its.drop k).foldl qay (s,r,bl)=its.foldl qay (0,0,0)) (fun (k,s,r,bl)=>its.length - k) (0,0,0,0) ⟨by omega,⟨by omega,by omega,by omega,by omega,by omega,by omega⟩,rfl⟩ ?_ ?_
  ·skip
   repeat' (first|apply And.intro|(intro h;try exact cDd)|exact cSd|apply qc []|refine exr ?_|refine qi ?_)
   all_goals first|rfl|(simp [SV.rens,SV.ren];done)
  ·rintro⟨k,s,r,bl⟩ ⟨hk,hbd,hrun⟩
   by_cases hkn:k<its.length
   ·have hx:its[k]? = some its[k]:=List.getElem?_eq_getElem hkn
    have hxm:(its.map z6)[k]? = some (z6 its[k]):=by rw [List.getElem?_map,hx];rfl
    rw [List.drop_eq_getElem_cons hkn,List.foldl_cons] at hrun
    generalize its[k]=x at hx hxm hrun
    by_cases hk3:x.kind=3
    ·have e:qay (s,r,bl) x=(s+1,r,bl):=by unfold qay;rw [if_pos hk3]
     rw [e] at hrun
     apply qe []
     repeat' (first|apply And.intro|(intro h;try exact cDd)|(refine Exists.intro (k) ⟨by omega,_,hxm,?_⟩)|(refine Exists.intro (k+1,s+1,r,bl) ⟨⟨by omega,by first|omega|(simp only;omega),hrun⟩,by first|omega|(simp only;omega),?_⟩)|exact cSd|apply qc []|refine exr ?_|refine qi ?_)
     all_goals first|rfl|(simp [SV.rens,SV.ren];done)
    ·by_cases hk2:x.kind=2
     ·have e:qay (s,r,bl) x=(s,r+1,bl):=by unfold qay;rw [if_neg hk3,if_pos hk2]
      rw [e] at hrun
      apply qe []
      repeat' (first|apply And.intro|(intro h;try exact cDd)|(refine Exists.intro (k) ⟨by omega,_,hxm,?_⟩)|(refine Exists.intro (k+1,s,r+1,bl) ⟨⟨by omega,by first|omega|(simp only;omega),hrun⟩,by first|omega|(simp only;omega),?_⟩)|exact cSd|apply qc []|refine exr ?_|refine qi ?_)
      all_goals first|rfl|(simp [SV.rens,SV.ren];done)
     ·have e:qay (s,r,bl) x=(s,r,bl+1):=by unfold qay;rw [if_neg hk3,if_neg hk2]
      rw [e] at hrun
      apply qe []
      repeat' (first|apply And.intro|(intro h;try exact cDd)|(refine Exists.intro (k) ⟨by omega,_,hxm,?_⟩)|(refine Exists.intro (k+1,s,r,bl+1) ⟨⟨by omega,by first|omega|(simp only;omega),hrun⟩,by first|omega|(simp only;omega),?_⟩)|exact cSd|apply qc []|refine exr ?_|refine qi ?_)
      all_goals first|rfl|(simp [SV.rens,SV.ren];done)
   ·have hkn:k=its.length:=by omega
    subst hkn
    rw [List.drop_length] at hrun
    rw [← hrun]
    apply qe []
    repeat' (first|apply And.intro|(intro h;try exact cDd)|exact cSd|apply qc []|refine exr ?_|refine qi ?_)
set_option maxHeartbeats 4000000 in
theorem q3x (text:Bytes) (st:List AObj) (hl:text.length<1000000):qp E 49 [Sv text] st fun r st'=>r = .tu [repA (qtj text),Iv (kh text).1.pos,Iv (kh text).1.code]∧st'=st:=by
 refine zl [.s text] (qag (qxi _) (qs _) (qs _)) Tryz.func49 rfl rfl (fun _=>rfl) rfl fun S0=>?_
 have hrt:=fun st=>q32 text st hl
 have hinv:=@qxj text
 have hcd:=@qqs text
 have hlm:=za0 text
 obtain⟨hB,hI⟩:=qt7 text
 unfold q2a at hrt
 unfold qtj
 generalize kh text=q at *
 obtain⟨e,b,l⟩:=q
 dsimp only at hrt hinv hB hI hcd hlm ⊢
 by_cases he:e = .no
 ·subst he
  rw [if_pos rfl] at hrt ⊢
  obtain⟨hT,_⟩:=hinv rfl
  have hBk:=qme hT
  have hbl:=hBk.len
  have hp:=fun st=>qju b.base st hBk.base
  rw [qqq hT.parse] at hp
  have hll:=fun st=>qt1 l st (by have:=hB.len;omega)
  have hlt:=fun st=>q31 l st (by have:=hB.len;omega) (qne hB hI)
  have htl:=qne hB hI
  have hil:=qjk b.base
  have hmb:(b.batches.map jg).length=b.batches.length:=by simp
  have htail:b.tail.length≤text.length:=by
   have:=congrArg List.length hT.txt
   simp at this
   omega
  have hbb:=hBk.base
  unfold LM at hlm
  rw [← hlm] at hll
  generalize qiw l=tl at *
  generalize itsE b.base=its at *
  have hmi:(its.map z6).length=its.length:=by simp
  apply qe []
  repeat' (first|apply And.intro|(intro h;try exact cDd)|exact⟨Tryz.call13⟩|refine cpe hrt ?_|exact⟨Tryz.call63⟩|refine cpe hp ?_|exact⟨Tryz.call91⟩|refine cpe hll ?_|exact⟨Tryz.call17⟩|refine cpe hlt ?_|exact cSd|apply qc []|refine exr ?_|refine qi ?_)
  refine jf (X:=Nat×Int×Int×Int) (fun (k,s,r,bl)=>⟨[(2,.bx 0 0),(9,.bx 1 0),(10,.a (js its)),(13,.i k)],[(0,some (.cells 83 [.i 0,.i 0,.i 0,.i 0,.i 0,.i 0,.i 0,.i 0,.i 0,.i 0])),(1,some (.cells 83 [.i b.gen,.i s,.i r,.i bl,.i b.batches.length,.i l.many,.i text.length,.i b.base.length,.i b.tail.length,.i tl.length]))],2⟩)
   (fun (k,s,r,bl)=>k≤its.length∧(0≤s∧s≤k∧0≤r∧r≤k∧0≤bl∧bl≤k)∧(its.drop k).foldl qay (s,r,bl)=its.foldl qay (0,0,0)) (fun (k,s,r,bl)=>its.length - k) (0,0,0,0) ⟨by omega,⟨by omega,by omega,by omega,by omega,by omega,by omega⟩,rfl⟩ ?_ ?_
  ·skip
   repeat' (first|apply And.intro|(intro h;try exact cDd)|exact cSd|apply qc []|refine exr ?_|refine qi ?_)
   all_goals first|rfl|(simp [SV.rens,SV.ren];done)
  ·rintro⟨k,s,r,bl⟩ ⟨hk,hbd,hrun⟩
   by_cases hkn:k<its.length
   ·have hx:its[k]? = some its[k]:=List.getElem?_eq_getElem hkn
    have hxm:(its.map z6)[k]? = some (z6 its[k]):=by rw [List.getElem?_map,hx];rfl
    rw [List.drop_eq_getElem_cons hkn,List.foldl_cons] at hrun
    generalize its[k]=x at hx hxm hrun
    by_cases hk3:x.kind=3
    ·have e:qay (s,r,bl) x=(s+1,r,bl):=by unfold qay;rw [if_pos hk3]
     rw [e] at hrun
     apply qe []
     repeat' (first|apply And.intro|(intro h;try exact cDd)|(refine Exists.intro (k) ⟨by omega,_,hxm,?_⟩)|(refine Exists.intro (k+1,s+1,r,bl) ⟨⟨by omega,by first|omega|(simp only;omega),hrun⟩,by first|omega|(simp only;omega),?_⟩)|exact cSd|apply qc []|refine exr ?_|refine qi ?_)
     all_goals first|rfl|(simp [SV.rens,SV.ren];done)
    ·by_cases hk2:x.kind=2
     ·have e:qay (s,r,bl) x=(s,r+1,bl):=by unfold qay;rw [if_neg hk3,if_pos hk2]
      rw [e] at hrun
      apply qe []
      repeat' (first|apply And.intro|(intro h;try exact cDd)|(refine Exists.intro (k) ⟨by omega,_,hxm,?_⟩)|(refine Exists.intro (k+1,s,r+1,bl) ⟨⟨by omega,by first|omega|(simp only;omega),hrun⟩,by first|omega|(simp only;omega),?_⟩)|exact cSd|apply qc []|refine exr ?_|refine qi ?_)
      all_goals first|rfl|(simp [SV.rens,SV.ren];done)
     ·have e:qay (s,r,bl) x=(s,r,bl+1):=by unfold qay;rw [if_neg hk3,if_neg hk2]
      rw [e] at hrun
      apply qe []
      repeat' (first|apply And.intro|(intro h;try exact cDd)|(refine Exists.intro (k) ⟨by omega,_,hxm,?_⟩)|(refine Exists.intro (k+1,s,r,bl+1) ⟨⟨by omega,by first|omega|(simp only;omega),hrun⟩,by first|omega|(simp only;omega),?_⟩)|exact cSd|apply qc []|refine exr ?_|refine qi ?_)
      all_goals first|rfl|(simp [SV.rens,SV.ren];done)
   ·have hkn:k=its.length:=by omega
    subst hkn
    rw [List.drop_length] at hrun
    rw [← hrun]
    apply qe []
    repeat' (first|apply And.intro|(intro h;try exact cDd)|exact cSd|apply qc []|refine exr ?_|refine qi ?_)
 ·have hcd:=hcd he
  rw [if_neg he] at hrt ⊢
  generalize e.code=c at hrt hcd
  generalize e.pos=c2 at hrt
  unfold rep0
  apply qe []
  repeat' (first|apply And.intro|(intro h;try exact cDd)|exact⟨Tryz.call13⟩|refine cpe hrt ?_|exact cSd|apply qc []|refine exr ?_|refine qi ?_)
theorem ziq:EqT Tryz.prog 83:=⟨by kernel_rfl,by kernel_rfl,by kernel_rfl⟩
set_option maxHeartbeats 4000000 in
theorem qzj (text:Bytes) (st:List AObj):qp E 10 [Sv text] st fun r st'=>r=Bv true∧st'=st:=by
 refine zl [.s text] (qs _) Tryz.func10 rfl rfl (fun _=>rfl) rfl fun S0=>?_
 have hal:=q79
 by_cases h4:4000<text.length
 ·apply qe []
  repeat' (first|apply And.intro|(intro h;try exact cDd)|exact⟨Tryz.call40⟩|refine cpe hal ?_|exact cSd|apply qc []|refine exr ?_|refine qi ?_)
 have hlk:=fun st=>zez text st (by omega)
 have hrl:=fun st=>q3x text st (by omega)
 have hok:=zh3 (@qqs text)
 have hnm:=fun st=>zh1 (kh text).1 st hok
 have hat:=fun st=>zin (kh text).1 st
 generalize qtj text=r at *
 have hq:r.gen=r.gen∧r.stanzas=r.stanzas∧r.remarks=r.remarks∧r.blanks=r.blanks∧r.records=r.records∧r.live=r.live∧r.bytes=r.bytes∧r.base=r.base∧r.tail=r.tail∧r.text=r.text∧True:=⟨rfl,rfl,rfl,rfl,rfl,rfl,rfl,rfl,rfl,rfl,trivial⟩
 generalize (kh text).1=e at *
 cases e
 all_goals
  apply qe []
  repeat' (first|apply And.intro|(intro h;try exact cDd)|exact⟨Tryz.call40⟩|refine cpe hal ?_|exact⟨Tryz.call48⟩|refine cpe hlk ?_|exact⟨Tryz.call49⟩|refine cpe hrl ?_|exact⟨Tryz.call14⟩|refine cpe hnm ?_|exact⟨Tryz.call15⟩|refine cpe hat ?_|(refine ziz ziq rfl rfl rfl rfl rfl ?_)|exact absurd hq (by assumption)|exact cSd|apply qc []|refine exr ?_|refine qi ?_)
  all_goals (simp;done)
end Go.Proofs.YtmoklbacdkmkaaaGreatDoor
