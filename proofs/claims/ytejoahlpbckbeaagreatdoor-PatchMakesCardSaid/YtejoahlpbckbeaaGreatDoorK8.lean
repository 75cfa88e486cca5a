/- Contracts and plain facts that the closing text leans on (part 8). No condition of their own beyond those that each states. -/
import Derived.Test.YtejoahlpbckbeaaGreatDoorK7
set_option maxRecDepth 100000
set_option linter.unusedVariables false
set_option linter.unusedSimpArgs false
namespace Go.Pl
open Go Go.Proofs Go.Proofs.YtejoahlpbckbeaaGreatDoor
theorem q72 {b:List qr} (hb:qaq b) (h:eErr b = .no):(encF b).length≤42000000:=by
 have h1:=qtk b hb.ed (qg2 h).2.2
 have:=hb.len
 omega
theorem qo4 {text:qc} {R:List (List Fld)} (hR:∀ r∈R,zl r = .no) (hl:R.length<1000000):qaq (xu text (ofF (itsE text)) R).2.b:=by
 have h0:qaq pat0.b:=⟨by simp [pat0],by simp [pat0],by simp [pat0]⟩
 unfold xu
 split
 ·exact h0
 ·split
  ·exact q1x hR hl (by omega)
  ·exact h0
theorem qgo (old now:qc):qaq (qz old now).2.b:=by
 have h0:qaq pat0.b:=⟨by simp [pat0],by simp [pat0],by simp [pat0]⟩
 unfold qz
 split
 ·split
  ·rename_i h
   refine qo4 (qu9 h) ?_
   have h1:=(yg now).len
   have h2:=qc8 (ofF (itsE now)).ents
   unfold jt
   rw [List.length_map]
   omega
  ·exact h0
 ·exact h0
theorem zbp (text:qc):wE (ofF (itsE text)).ents≤2 * text.length:=by
 have h:=qun (itsE text) ⟨[],1,0⟩
 rw [show wE ([]:List EntV)=0 from rfl,Nat.zero_add] at h
 have:=zal text
 unfold ofF
 omega
theorem qi5 {text:qc} {b:List qr} (h:zx text = .no) (hb:qaq b):(wo (jn (ofF (itsE text)) b).2).length<100000000:=by
 have h1:=zbp text
 have h2:=q9n (qth (qg6 h) b)
 have h3:=(qdh h).2.1
 have h4:wE (jn (ofF (itsE text)) b).2.ents≤42120000:=by
  unfold jn
  split
  ·simp only
   omega
  ·by_cases he:eErr b = .no
   ·have:=zbl (ofF (itsE text)) b
    have:=q72 hb he
    simp only
    omega
   ·unfold doF
    rw [if_neg he]
    simp only
    omega
 omega
end Go.Pl
namespace Go.Proofs.YtejoahlpbckbeaaGreatDoor
open Go Go.Av Go.RowKit Go.Proofs Go.Pl
@[reducible] def patA (p : PatV) : AV := .ag [Wv p.fr, Wv p.to', yr p.b]
theorem q24 (p:PatV):Pure (patA p):=qd4 fun y hy=>by
 simp only [AV.cells,List.mem_cons,List.not_mem_nil,or_false] at hy
 rcases hy with rfl|rfl|rfl
 ·exact q8 _
 ·exact q8 _
 ·exact qgi _
structure qgr (l:qp):Prop where
 lb:LB 300040 l
 li:LI l
 lm:LM l
theorem q8s (text:qc):qgr (ofF (itsE text)):=⟨qkc (yg text) (by omega) (by omega),qcr text,q2q _⟩
theorem qqo (text:qc) (b:List qr):qgr (jn (ofF (itsE text)) b).2:=by
 unfold jn
 split
 ·exact q8s text
 ·exact⟨q99 (yg text) (by omega) b,zaa (qcr text) b,zab (q2q _) (yg text) (by omega) b⟩
theorem qgr.its {l:qp} (h:qgr l):ItsB (ze l):=q8b h.lb h.li
theorem qgr.txt {l:qp} (h:qgr l):(wo l).length≤1000000000000:=q6f h.lb h.li
theorem qxz (text:qc) (b:List qr) (st:List AObj) (hb:qaq b):qn E 54 [ki (ofF (itsE text)),yr b] st fun r st'=>r=qbh (jn (ofF (itsE text)) b).1 (jn (ofF (itsE text)) b).2∧st'=st:=by
 have hl:=hb.len
 have hml:(b.map x2).length=b.length:=by simp
 have hd:=fun st=>zbm 300000 (ofF (itsE text)) b st (yg text) (by omega) hb.ed (by omega)
 generalize ofF (itsE text)=l at *
 refine jc [.a (ki l),.a (yr b)] (qla _ _) Tryz.func54 rfl rfl (fun _=>rfl) rfl fun S0=>?_
 unfold jn
 unfold doA at hd
 by_cases h:b=[]
 ·subst h
  rw [if_pos rfl]
  apply qe []
  repeat' (first|apply And.intro|(intro h;try exact cDd)|exact cSd|apply qd []|refine exr ?_|refine qg ?_)
 ·have h0:0<b.length:=List.length_pos_iff.2 h
  rw [if_neg h]
  generalize doF l b=q at *
  obtain⟨e,l2,ids⟩:=q
  cases e
  all_goals
   dsimp only at hd ⊢
   apply qe []
   repeat' (first|apply And.intro|(intro h;try exact cDd)|exact⟨Tryz.call101⟩|refine cpe hd ?_|exact cSd|apply qd []|refine exr ?_|refine qg ?_)
def qdi (r:ErrV×PatV):AV:=.tu [patA r.2,errA r.1]
theorem qh0 (r:ErrV×PatV):Pure (qdi r):=w6 (q24 _) (kg _)
theorem qz4 (text:qc) (R:List (List Fld)) (st:List AObj) (hp:zx text = .no)
  (hE:∀ st,qn E 94 [ki (ofF (itsE text)),kf R] st fun r st'=>r=qem (va (ofF (itsE text)) R)∧st'=st) (hsm:(va (ofF (itsE text)) R).length≤40→qaq (va (ofF (itsE text)) R)) :
  qn E 46 [Sv text,ki (ofF (itsE text)),kf R] st fun r st'=>r=qdi (xu text (ofF (itsE text)) R)∧st'=st:=by
 have hok:=qqo text (va (ofF (itsE text)) R)
 have htx:=fun h=>@qi5 text (va (ofF (itsE text)) R) hp h
 have hl:=(qdh hp).2.1
 have hd:=fun h st=>qxz text (va (ofF (itsE text)) R) st h
 have hs:=fun st=>qop text st (by omega)
 have ht:=fun st=>qxv (jn (ofF (itsE text)) (va (ofF (itsE text)) R)).2 st hok.its hok.txt
 unfold xu
 unfold qem at hE
 clear hok
 generalize ofF (itsE text)=l at *
 generalize va l R=b at *
 refine jc [.s text,.a (ki l),.a (kf R)] (qh0 _) Tryz.func46 rfl rfl (fun _=>rfl) rfl fun S0=>?_
 unfold qdi
 by_cases h:40<b.length
 ·rw [if_pos h] at hE ⊢
  apply qe []
  repeat' (first|apply And.intro|(intro h;try exact cDd)|exact⟨Tryz.call94⟩|refine cpe hE ?_|exact cSd|apply qd []|refine exr ?_|refine qg ?_)
 ·rw [if_neg h] at hE ⊢
  replace hsm:=hsm (by omega)
  replace hd:=hd hsm
  replace htx:=htx hsm
  unfold qbh at hd
  have h2:=fun st=>qop (wo (jn l b).2) st (by omega)
  generalize jn l b=q at *
  obtain⟨e,l2⟩:=q
  dsimp only at *
  generalize wo l2=s2 at *
  cases e with
  |no=>
   rw [if_pos rfl]
   apply qe []
   repeat' (first|apply And.intro|(intro h;try exact cDd)|exact⟨Tryz.call94⟩|refine cpe hE ?_|exact⟨Tryz.call54⟩|refine cpe hd ?_|exact⟨Tryz.call53⟩|refine cpe hs ?_|exact⟨Tryz.call55⟩|refine cpe ht ?_|exact⟨Tryz.call53⟩|refine cpe h2 ?_|exact cSd|apply qd []|refine exr ?_|refine qg ?_)
  |num n=>
   rw [if_neg (by simp)]
   apply qe []
   repeat' (first|apply And.intro|(intro h;try exact cDd)|exact⟨Tryz.call94⟩|refine cpe hE ?_|exact⟨Tryz.call54⟩|refine cpe hd ?_|exact cSd|apply qd []|refine exr ?_|refine qg ?_)
  |at' a n=>
   rw [if_neg (by simp)]
   apply qe []
   repeat' (first|apply And.intro|(intro h;try exact cDd)|exact⟨Tryz.call94⟩|refine cpe hE ?_|exact⟨Tryz.call54⟩|refine cpe hd ?_|exact cSd|apply qd []|refine exr ?_|refine qg ?_)
theorem qwu (text:qc) (st:List AObj) (h1:60000<text.length) (h2:text.length<1000000000):qn E 22 [Sv text] st fun r st'=>r = .tu [.v (.pointer none),errA (.num 1)]∧st'=st:=by
 have hp:∀ st,qn E 56 [Sv text] st fun r st'=>r = .tu [wp [],errA (.num 1)]∧st'=st:=fun st=>by
  refine jc [.s text] (w6 (qbg _) (kg _)) Tryz.func56 rfl rfl (fun _=>rfl) rfl fun S0=>?_
  apply qe []
  repeat' (first|apply And.intro|(intro h;try exact cDd)|exact cSd|apply qd []|refine exr ?_|refine qg ?_)
 refine jc [.s text] (w6 (q8 _) (kg _)) Tryz.func22 rfl rfl (fun _=>rfl) rfl fun S0=>?_
 apply qe [19]
 repeat' (first|apply And.intro|(intro h;try exact cDd)|exact⟨Tryz.call56⟩|refine cpe hp ?_|exact cSd|apply qd [19]|refine exr ?_|refine qg ?_)
theorem qpk (old now:qc) (st:List AObj) (h1:old.length<1000000) (h2:now.length<1000000):qn E 11 [Sv old,Sv now] st fun r st'=>r=qdi (qz old now)∧st'=st:=by
 refine jc [.s old,.s now] (qh0 _) Tryz.func11 rfl rfl (fun _=>rfl) rfl fun S0=>?_
 have ha:=fun st=>qbw old st h1
 have hb:=fun st=>qbw now st h2
 have hr:=fun st=>qel (ofF (itsE now)) st (by have:=(yg now).len;omega) (fun e he=>by have:=(qcr now e he).2;omega)
 have hrl:(jt (ofF (itsE now))).length<1000000:=by
  have h1:=(yg now).len
  have h2:=qc8 (ofF (itsE now)).ents
  unfold jt
  rw [List.length_map]
  omega
 have hbt:=fun hp hsm st=>qz4 old (jt (ofF (itsE now))) st hp (fun st=>q4l old (jt (ofF (itsE now))) st hsm hrl) (q1x hsm hrl)
 have hgn:=qu9 (text:=now)
 unfold qz
 unfold qbh at ha hb
 generalize ofF (itsE now)=m at *
 generalize jt m=R at *
 cases he:zx old with
 |num n=>
  rw [he] at ha
  rw [if_neg (by simp)]
  apply qe []
  repeat' (first|apply And.intro|(intro h;try exact cDd)|exact⟨Tryz.call22⟩|refine cpe ha ?_|exact cSd|apply qd []|refine exr ?_|refine qg ?_)
 |at' a n=>
  rw [he] at ha
  rw [if_neg (by simp)]
  apply qe []
  repeat' (first|apply And.intro|(intro h;try exact cDd)|exact⟨Tryz.call22⟩|refine cpe ha ?_|exact cSd|apply qd []|refine exr ?_|refine qg ?_)
 |no=>
  replace hbt:=hbt he
  rw [he] at ha
  rw [if_pos rfl]
  cases he2:zx now with
  |num n=>
   rw [he2] at hb
   rw [if_neg (by simp)]
   apply qe []
   repeat' (first|apply And.intro|(intro h;try exact cDd)|exact⟨Tryz.call22⟩|refine cpe ha ?_|exact⟨Tryz.call22⟩|refine cpe hb ?_|exact cSd|apply qd []|refine exr ?_|refine qg ?_)
  |at' a n=>
   rw [he2] at hb
   rw [if_neg (by simp)]
   apply qe []
   repeat' (first|apply And.intro|(intro h;try exact cDd)|exact⟨Tryz.call22⟩|refine cpe ha ?_|exact⟨Tryz.call22⟩|refine cpe hb ?_|exact cSd|apply qd []|refine exr ?_|refine qg ?_)
  |no=>
   replace hbt:=hbt (hgn he2)
   rw [he2] at hb
   rw [if_pos rfl]
   dsimp only at ha hb
   generalize ofF (itsE old)=l at *
   generalize xu old l R=q at *
   obtain⟨e2,p2⟩:=q
   unfold qdi at hbt ⊢
   dsimp only at hbt ⊢
   cases e2
   all_goals
    apply qe []
    repeat' (first|apply And.intro|(intro h;try exact cDd)|exact⟨Tryz.call22⟩|refine cpe ha ?_|exact⟨Tryz.call22⟩|refine cpe hb ?_|exact⟨Tryz.call24⟩|refine cpe hr ?_|exact⟨Tryz.call46⟩|refine cpe hbt ?_|exact cSd|apply qd []|refine exr ?_|refine qg ?_)
theorem qhw (text:qc) (p:PatV) (st:List AObj) (hl:text.length<1000000) (hb:qaq p.b):qn E 18 [Sv text,patA p] st fun r st'=>r = .tu [Sv (jb text p).2,errA (jb text p).1]∧st'=st:=by
 obtain⟨f,t,b⟩:=p
 refine jc [.s text,.a (.ag [Wv f,Wv t,yr b])] (w6 (q8 _) (kg _)) Tryz.func18 rfl rfl (fun _=>rfl) rfl fun S0=>?_
 dsimp only at hb ⊢
 have ha:=fun st=>qbw text st hl
 have hs:=fun st=>qop text st (by omega)
 have hok:=qqo text b
 have htx:=fun h=>@qi5 text b h hb
 have hd:=fun st=>qxz text b st hb
 have ht:=fun st=>qxv (jn (ofF (itsE text)) b).2 st hok.its hok.txt
 unfold jb
 dsimp only
 unfold qbh at ha
 clear hok
 cases he:zx text with
 |num n=>
  rw [he] at ha
  rw [if_neg (by simp)]
  apply qe []
  repeat' (first|apply And.intro|(intro h;try exact cDd)|exact⟨Tryz.call22⟩|refine cpe ha ?_|exact cSd|apply qd []|refine exr ?_|refine qg ?_)
 |at' a n=>
  rw [he] at ha
  rw [if_neg (by simp)]
  apply qe []
  repeat' (first|apply And.intro|(intro h;try exact cDd)|exact⟨Tryz.call22⟩|refine cpe ha ?_|exact cSd|apply qd []|refine exr ?_|refine qg ?_)
 |no=>
  replace htx:=htx he
  rw [he] at ha
  rw [if_pos rfl]
  dsimp only at ha
  generalize ofF (itsE text)=l at *
  unfold qbh at hd
  have h2:=fun st=>qop (wo (jn l b).2) st (by omega)
  generalize jn l b=q at *
  obtain⟨e,l2⟩:=q
  dsimp only at *
  generalize wo l2=s2 at *
  generalize addP 0 text=x at *
  generalize addP 0 s2=y at *
  have w1:(x.toNat:Int)=f.toNat↔x=f:=q0t x f
  have w2:(y.toNat:Int)=t.toNat↔y=t:=q0t y t
  by_cases hx:x=f
  ·rw [if_pos hx]
   replace w1:=w1.2 hx
   cases e with
   |no=>
    rw [if_pos rfl]
    by_cases hy:y=t
    ·rw [if_pos hy]
     replace w2:=w2.2 hy
     apply qe []
     repeat' (first|apply And.intro|(intro h;try exact cDd)|exact⟨Tryz.call22⟩|refine cpe ha ?_|exact⟨Tryz.call53⟩|refine cpe hs ?_|exact⟨Tryz.call54⟩|refine cpe hd ?_|exact⟨Tryz.call55⟩|refine cpe ht ?_|exact⟨Tryz.call53⟩|refine cpe h2 ?_|exact absurd w1 (by assumption)|exact absurd w2 (by assumption)|exact cSd|apply qd []|refine exr ?_|refine qg ?_)
    ·rw [if_neg hy]
     replace w2:=fun h=>hy (w2.1 h)
     apply qe []
     repeat' (first|apply And.intro|(intro h;try exact cDd)|exact⟨Tryz.call22⟩|refine cpe ha ?_|exact⟨Tryz.call53⟩|refine cpe hs ?_|exact⟨Tryz.call54⟩|refine cpe hd ?_|exact⟨Tryz.call55⟩|refine cpe ht ?_|exact⟨Tryz.call53⟩|refine cpe h2 ?_|exact absurd w1 (by assumption)|exact absurd w2 (by assumption)|exact absurd (by assumption) w2|exact cSd|apply qd []|refine exr ?_|refine qg ?_)
   |num n=>
    rw [if_neg (by simp)]
    apply qe []
    repeat' (first|apply And.intro|(intro h;try exact cDd)|exact⟨Tryz.call22⟩|refine cpe ha ?_|exact⟨Tryz.call53⟩|refine cpe hs ?_|exact⟨Tryz.call54⟩|refine cpe hd ?_|exact absurd w1 (by assumption)|exact cSd|apply qd []|refine exr ?_|refine qg ?_)
   |at' a n=>
    rw [if_neg (by simp)]
    apply qe []
    repeat' (first|apply And.intro|(intro h;try exact cDd)|exact⟨Tryz.call22⟩|refine cpe ha ?_|exact⟨Tryz.call53⟩|refine cpe hs ?_|exact⟨Tryz.call54⟩|refine cpe hd ?_|exact absurd w1 (by assumption)|exact cSd|apply qd []|refine exr ?_|refine qg ?_)
  ·rw [if_neg hx]
   replace w1:=fun h=>hx (w1.1 h)
   apply qe []
   repeat' (first|apply And.intro|(intro h;try exact cDd)|exact⟨Tryz.call22⟩|refine cpe ha ?_|exact⟨Tryz.call53⟩|refine cpe hs ?_|exact absurd w1 (by assumption)|exact absurd (by assumption) w1|exact cSd|apply qd []|refine exr ?_|refine qg ?_)
theorem q8z (text:qc) (p:PatV) (st:List AObj) (hl:text.length<1000000) (hb:qaq p.b) (hl2:(jb text p).2.length<1000000):qn E 20 [Sv text,patA p] st fun r st'=>r=qdi (qsa text p)∧st'=st:=by
 refine jc [.s text,.a (patA p)] (qh0 _) Tryz.func20 rfl rfl (fun _=>rfl) rfl fun S0=>?_
 have ha:=fun st=>qhw text p st hl hb
 have hm:=fun st=>qpk (jb text p).2 text st hl2 hl
 unfold qsa
 generalize jb text p=q at *
 obtain⟨e,s⟩:=q
 dsimp only at *
 unfold qdi at *
 generalize qz s text=m at *
 obtain⟨e2,p2⟩:=m
 cases e with
 |no=>
  rw [if_pos rfl]
  dsimp only at hm ⊢
  cases e2
  all_goals
   apply qe []
   repeat' (first|apply And.intro|(intro h;try exact cDd)|exact⟨Tryz.call18⟩|refine cpe ha ?_|exact⟨Tryz.call11⟩|refine cpe hm ?_|exact cSd|apply qd []|refine exr ?_|refine qg ?_)
 |num n=>
  rw [if_neg (by simp)]
  apply qe []
  repeat' (first|apply And.intro|(intro h;try exact cDd)|exact⟨Tryz.call18⟩|refine cpe ha ?_|exact cSd|apply qd []|refine exr ?_|refine qg ?_)
 |at' a n=>
  rw [if_neg (by simp)]
  apply qe []
  repeat' (first|apply And.intro|(intro h;try exact cDd)|exact⟨Tryz.call18⟩|refine cpe ha ?_|exact cSd|apply qd []|refine exr ?_|refine qg ?_)
theorem qy7 {l:qp} {b:List qr} (h:(jn l b).1≠.no):(jn l b).1.code≠0:=by
 unfold jn at h ⊢
 split
 ·rename_i hb
  rw [if_pos hb] at h
  exact absurd rfl h
 ·rename_i hb
  rw [if_neg hb] at h
  exact q4n h
theorem qv9 (text:qc) (R:List (List Fld)):okE (xu text (ofF (itsE text)) R).1:=by
 unfold xu
 split
 ·simp [okE]
 ·split
  ·trivial
  ·exact quq fun h=>qy7 h
theorem q5b (old now:qc):okE (qz old now).1:=by
 unfold qz
 split
 ·split
  ·exact qv9 _ _
  ·exact quq fun h=>qux h
 ·exact quq fun h=>qux h
def xe:qc:=[65,58,32,49,10]
theorem qsp:qz xe []=(.no,⟨addP 0 xe,addP 0 [],[⟨2,1,[]⟩]⟩):=by
 have p1:zx xe = .no:=by decide +kernel
 have p2:zx [] = .no:=by decide +kernel
 have s1:stzF (ofF (itsE xe)).ents=[(1,[([65],[49])])]:=by decide +kernel
 have r1:jt (ofF (itsE []))=[]:=by decide +kernel
 have w1:wayF [([([65],[49])]:List Fld)] []=[3]:=by simp [wayF,wayB,v6,qdm]
 have d1:va (ofF (itsE xe)) []=[⟨2,1,[]⟩]:=by
  unfold va
  rw [s1,show ([((1:Int),[(([65],[49]):Fld)])].map Prod.snd)=[[(([65],[49]):Fld)]] from rfl,w1]
  rfl
 have d2:(jn (ofF (itsE xe)) [⟨2,1,[]⟩]).1 = .no:=by decide +kernel
 have d3:wo (jn (ofF (itsE xe)) [⟨2,1,[]⟩]).2=[]:=by decide +kernel
 unfold qz
 rw [if_pos p1,if_pos p2,r1]
 unfold xu
 rw [d1,if_neg (by simp),if_pos d2,d3]
theorem qrh (text:qc):(jt (ofF (itsE text))).length<1000000:=by
 have h1:=(yg text).len
 have h2:=qc8 (ofF (itsE text)).ents
 unfold jt
 rw [List.length_map]
 omega
theorem qu8 (text:qc):∀ r∈jt (ofF (itsE text)),r.length<1000000:=fun r hr=>by
 unfold jt at hr
 obtain⟨s,hs,rfl⟩:=List.mem_map.1 hr
 obtain⟨e,he,rfl⟩:=List.mem_map.1 hs
 have:=(qcr text e (List.mem_filter.1 he).1).2
 simp only
 omega
theorem q0y (st:List AObj):qn E 10 [] st fun r st'=>r=Bv true∧st'=st:=by
 have hm:=fun st=>qpk xe [] st (by decide) (by decide)
 have q0:=qsp
 have h1:(qz xe []).1 = .no:=by rw [q0]
 have h2:(qz xe []).2.b.map (fun e=>e.kind)=[2]:=by rw [q0];rfl
 have h3:(qz xe []).2.to'=addP 0 []:=by rw [q0]
 have h4:¬ (qz xe []).2.fr=(qz xe []).2.to':=by rw [q0];decide +kernel
 have h5:(jb xe (qz xe []).2).2=[]:=by rw [(qdt h1).2,q0];decide +kernel
 have h6:=(qdt h1).1
 have hsm:=qgo xe []
 have ha:=fun st=>qhw xe (qz xe []).2 st (by decide) hsm
 have hs:=fun st=>q5t [] st (by decide)
 rw [h5,h6] at ha
 unfold qdi at hm
 rw [h1] at hm
 clear h1 h5 h6 hsm
 generalize (qz xe []).2=p at *
 obtain⟨f,t,b⟩:=p
 dsimp only at *
 obtain⟨x,rfl,hx⟩:∃ x,b=[x]∧x.kind=2:=by
  cases b with
  |nil=>simp at h2
  |cons x r=>
   simp at h2
   exact⟨x,by rw [h2.2],h2.1⟩
 subst h3
 have w1:¬ ((f.toNat:Int)=(addP 0 []).toNat):=fun h=>h4 ((q0t f (addP 0 [])).1 h)
 generalize addP 0 []=t at *
 obtain⟨k,i,fs⟩:=x
 dsimp only at hx
 subst hx
 unfold xe at hm ha
 refine jc [] (q8 _) Tryz.func10 rfl rfl (fun _=>rfl) rfl fun S0=>?_
 apply qe []
 repeat' (first|apply And.intro|(intro h;try exact cDd)|exact⟨Tryz.call11⟩|refine cpe hm ?_|exact⟨Tryz.call18⟩|refine cpe ha ?_|exact⟨Tryz.call45⟩|refine cpe hs ?_|exact absurd rfl (by assumption)|exact absurd (by assumption) w1|exact cSd|apply qd []|refine exr ?_|refine qg ?_)
 all_goals first|rfl|(simp;done)|(simp [w1];done)
set_option maxHeartbeats 4000000 in
theorem qw1 (old now:qc) (st:List AObj):qn E 5 [Sv old,Sv now] st fun r st'=>r=Bv true∧st'=st:=by
 refine jc [.s old,.s now] (q8 _) Tryz.func5 rfl rfl (fun _=>rfl) rfl fun S0=>?_
 have hal:=q0y
 by_cases h1:1500<old.length
 ·apply qe []
  repeat' (first|apply And.intro|(intro h;try exact cDd)|exact⟨Tryz.call10⟩|refine cpe hal ?_|exact cSd|apply qd []|refine exr ?_|refine qg ?_)
 by_cases h2:1500<now.length
 ·apply qe []
  repeat' (first|apply And.intro|(intro h;try exact cDd)|exact⟨Tryz.call10⟩|refine cpe hal ?_|exact cSd|apply qd []|refine exr ?_|refine qg ?_)
 have hm:=fun st=>qpk old now st (by omega) (by omega)
 unfold qdi at hm
 cases he:(qz old now).1 with
 |num n=>
  rw [he] at hm
  generalize (qz old now).2=p at *
  obtain⟨f,t,b⟩:=p
  apply qe []
  repeat' (first|apply And.intro|(intro h;try exact cDd)|exact⟨Tryz.call10⟩|refine cpe hal ?_|exact⟨Tryz.call11⟩|refine cpe hm ?_|exact cSd|apply qd []|refine exr ?_|refine qg ?_)
 |at' a n=>
  rw [he] at hm
  generalize (qz old now).2=p at *
  obtain⟨f,t,b⟩:=p
  apply qe []
  repeat' (first|apply And.intro|(intro h;try exact cDd)|exact⟨Tryz.call10⟩|refine cpe hal ?_|exact⟨Tryz.call11⟩|refine cpe hm ?_|exact cSd|apply qd []|refine exr ?_|refine qg ?_)
 |no=>
  obtain⟨hp1,hp2,hp3,hp4,hp5⟩:=qpe he
  have hg:=qdt he
  have hsm:=qgo old now
  have ha:=fun st=>qhw old (qz old now).2 st (by omega) hsm
  rw [hg.1] at ha
  have hlo:=fun st=>qbw old st (by omega)
  have hln:=fun st=>qbw now st (by omega)
  rw [hp1] at hlo
  rw [hp2] at hln
  unfold qbh at hlo hln
  dsimp only at hlo hln
  rw [he] at hm
  by_cases h6:60000<(jb old (qz old now).2).2.length
  ·generalize (jb old (qz old now).2).2=s at *
   generalize (qz old now).2=p at *
   generalize ofF (itsE old)=l1 at *
   generalize ofF (itsE now)=l2 at *
   obtain⟨f,t,b⟩:=p
   apply qe []
   repeat' (first|apply And.intro|(intro h;try exact cDd)|exact⟨Tryz.call10⟩|refine cpe hal ?_|exact⟨Tryz.call11⟩|refine cpe hm ?_|exact⟨Tryz.call18⟩|refine cpe ha ?_|exact⟨Tryz.call22⟩|refine cpe hlo ?_|exact⟨Tryz.call22⟩|refine cpe hln ?_|exact cSd|apply qd []|refine exr ?_|refine qg ?_)
  ·obtain⟨hq1,hq2⟩:=qq3 (s:=(jb old (qz old now).2).2) he rfl (by omega)
   have hro:=fun st=>qel (ofF (itsE old)) st (by have:=(yg old).len;omega) (fun e he=>by have:=(qcr old e he).2;omega)
   have hrn:=fun st=>qel (ofF (itsE now)) st (by have:=(yg now).len;omega) (fun e he=>by have:=(qcr now e he).2;omega)
   have hrs:=fun st=>qel (ofF (itsE (jb old (qz old now).2).2)) st (by have:=(yg (jb old (qz old now).2).2).len;omega) (fun e he=>by have:=(qcr (jb old (qz old now).2).2 e he).2;omega)
   rw [hq2] at hrs
   have hsn:=fun st=>qk1 (jt (ofF (itsE now))) st (qrh now) (qu8 now)
   have hso:=fun st=>qk1 (jt (ofF (itsE old))) st (qrh old) (qu8 old)
   have hls:=fun st=>qbw (jb old (qz old now).2).2 st (by omega)
   rw [hq1] at hls
   unfold qbh at hls
   dsimp only at hls
   have hb:=fun st=>q8z old (qz old now).2 st (by omega) hsm (by omega)
   have hbe:qsa old (qz old now).2=qz (jb old (qz old now).2).2 old:=by
    unfold qsa
    rw [if_pos hg.1]
   rw [hbe] at hb
   have hme:=q5c hq1 hp1
   have hok:=q5b (jb old (qz old now).2).2 old
   have hsm2:=qgo (jb old (qz old now).2).2 old
   have hg2:=fun h=>@qdt (jb old (qz old now).2).2 old h
   have hr2:=fun h t h1 h2=>@qq3 (jb old (qz old now).2).2 old t h h1 h2
   have ha2:=fun st=>qhw (jb old (qz old now).2).2 (qz (jb old (qz old now).2).2 old).2 st (by omega) hsm2
   have htx:=@qi5 (jb old (qz old now).2).2 (qz (jb old (qz old now).2).2 old).2.b hq1 hsm2
   clear hg hp3 hp4 hp5 hsm
   generalize (jb old (qz old now).2).2=s at *
   generalize (qz old now).2=p at *
   obtain⟨f,t,b⟩:=p
   dsimp only at *
   unfold qdi at hb
   cases hbk:(qz s old).1 with
   |num n=>
    have hn:n=1:=by
     rcases hme with h|h | ⟨j,h⟩ <;> rw [h] at hbk <;> simp at hbk
     omega
    subst hn
    rw [hbk] at hb
    have hi1:=fun st=>qzp (.num 1) 1 st (by simp [okE])
    generalize (qz s old).2=p2 at *
    obtain⟨f2,t2,b2⟩:=p2
    generalize ofF (itsE old)=l1 at *
    generalize ofF (itsE now)=l2 at *
    generalize ofF (itsE s)=l3 at *
    apply qe []
    repeat' (first|apply And.intro|(intro h;try exact cDd)|exact⟨Tryz.call10⟩|refine cpe hal ?_|exact⟨Tryz.call11⟩|refine cpe hm ?_|exact⟨Tryz.call18⟩|refine cpe ha ?_|exact⟨Tryz.call22⟩|refine cpe hlo ?_|exact⟨Tryz.call22⟩|refine cpe hln ?_|exact⟨Tryz.call22⟩|refine cpe hls ?_|exact⟨Tryz.call24⟩|refine cpe hrs ?_|exact⟨Tryz.call24⟩|refine cpe hrn ?_|exact⟨Tryz.call23⟩|refine cpe hsn ?_|exact⟨Tryz.call20⟩|refine cpe hb ?_|exact⟨Tryz.call25⟩|refine cpe hi1 ?_|exact cSd|apply qd []|refine exr ?_|refine qg ?_)
    all_goals first|rfl|(simp [ErrV.code];done)
   |at' a n=>
    have hn:n=11:=by
     rcases hme with h|h | ⟨j,h⟩ <;> rw [h] at hbk <;> simp at hbk
     omega
    subst hn
    rw [hbk] at hb
    have hi1:=fun st=>qzp (.at' a 11) 1 st (by simp [okE])
    have hi2:=fun st=>qzp (.at' a 11) 11 st (by simp [okE])
    generalize (qz s old).2=p2 at *
    obtain⟨f2,t2,b2⟩:=p2
    generalize ofF (itsE old)=l1 at *
    generalize ofF (itsE now)=l2 at *
    generalize ofF (itsE s)=l3 at *
    apply qe []
    repeat' (first|apply And.intro|(intro h;try exact cDd)|exact⟨Tryz.call10⟩|refine cpe hal ?_|exact⟨Tryz.call11⟩|refine cpe hm ?_|exact⟨Tryz.call18⟩|refine cpe ha ?_|exact⟨Tryz.call22⟩|refine cpe hlo ?_|exact⟨Tryz.call22⟩|refine cpe hln ?_|exact⟨Tryz.call22⟩|refine cpe hls ?_|exact⟨Tryz.call24⟩|refine cpe hrs ?_|exact⟨Tryz.call24⟩|refine cpe hrn ?_|exact⟨Tryz.call23⟩|refine cpe hsn ?_|exact⟨Tryz.call20⟩|refine cpe hb ?_|exact⟨Tryz.call25⟩|refine cpe hi1 ?_|exact⟨Tryz.call25⟩|refine cpe hi2 ?_|exact cSd|apply qd []|refine exr ?_|refine qg ?_)
    all_goals first|rfl|(simp [ErrV.code];done)
   |no=>
    rw [hbk] at hb
    replace hg2:=hg2 hbk
    rw [hg2.1] at ha2
    rw [← hg2.2] at htx
    by_cases h7:60000<(jb s (qz s old).2).2.length
    ·have hlt:=fun st=>qwu (jb s (qz s old).2).2 st h7 (by omega)
     clear hg2 hr2 htx
     generalize (jb s (qz s old).2).2=t9 at *
     generalize (qz s old).2=p2 at *
     obtain⟨f2,t2,b2⟩:=p2
     generalize ofF (itsE old)=l1 at *
     generalize ofF (itsE now)=l2 at *
     generalize ofF (itsE s)=l3 at *
     apply qe []
     repeat' (first|apply And.intro|(intro h;try exact cDd)|exact⟨Tryz.call10⟩|refine cpe hal ?_|exact⟨Tryz.call11⟩|refine cpe hm ?_|exact⟨Tryz.call18⟩|refine cpe ha ?_|exact⟨Tryz.call22⟩|refine cpe hlo ?_|exact⟨Tryz.call22⟩|refine cpe hln ?_|exact⟨Tryz.call22⟩|refine cpe hls ?_|exact⟨Tryz.call24⟩|refine cpe hrs ?_|exact⟨Tryz.call24⟩|refine cpe hrn ?_|exact⟨Tryz.call23⟩|refine cpe hsn ?_|exact⟨Tryz.call20⟩|refine cpe hb ?_|exact⟨Tryz.call18⟩|refine cpe ha2 ?_|exact⟨Tryz.call22⟩|refine cpe hlt ?_|exact cSd|apply qd []|refine exr ?_|refine qg ?_)
     all_goals first|rfl|(simp;done)|(simp;omega)
    ·obtain⟨hz1,hz2⟩:=hr2 hbk _ rfl (by omega)
     have hlt:=fun st=>qbw (jb s (qz s old).2).2 st (by omega)
     rw [hz1] at hlt
     unfold qbh at hlt
     dsimp only at hlt
     have hrt:=fun st=>qel (ofF (itsE (jb s (qz s old).2).2)) st (by have:=(yg (jb s (qz s old).2).2).len;omega) (fun e he=>by have:=(qcr (jb s (qz s old).2).2 e he).2;omega)
     rw [hz2] at hrt
     clear hg2 hr2 htx hz1 hz2
     generalize (jb s (qz s old).2).2=t9 at *
     generalize (qz s old).2=p2 at *
     obtain⟨f2,t2,b2⟩:=p2
     generalize jt (ofF (itsE old))=R1 at *
     generalize ofF (itsE old)=l1 at *
     generalize jt (ofF (itsE now))=R2 at *
     generalize ofF (itsE now)=l2 at *
     generalize ofF (itsE s)=l3 at *
     generalize ofF (itsE t9)=l4 at *
     apply qe []
     repeat' (first|apply And.intro|(intro h;try exact cDd)|exact⟨Tryz.call10⟩|refine cpe hal ?_|exact⟨Tryz.call11⟩|refine cpe hm ?_|exact⟨Tryz.call18⟩|refine cpe ha ?_|exact⟨Tryz.call22⟩|refine cpe hlo ?_|exact⟨Tryz.call22⟩|refine cpe hln ?_|exact⟨Tryz.call22⟩|refine cpe hls ?_|exact⟨Tryz.call24⟩|refine cpe hrs ?_|exact⟨Tryz.call24⟩|refine cpe hrn ?_|exact⟨Tryz.call23⟩|refine cpe hsn ?_|exact⟨Tryz.call20⟩|refine cpe hb ?_|exact⟨Tryz.call18⟩|refine cpe ha2 ?_|exact⟨Tryz.call22⟩|refine cpe hlt ?_|exact⟨Tryz.call24⟩|refine cpe hrt ?_|exact⟨Tryz.call24⟩|refine cpe hro ?_|exact⟨Tryz.call23⟩|refine cpe hso ?_|exact cSd|apply qd []|refine exr ?_|refine qg ?_)
     all_goals first|rfl|(simp;done)|(simp;omega)
end Go.Proofs.YtejoahlpbckbeaaGreatDoor
namespace Go.Proofs.YtejoahlpbckbeaaGreatDoor
open Go Go.Av Go.RowKit Go.WideShapes Go.ChangeShapes Go.Deep Go.Proofs Go.Pl
theorem qw0 (old now:qc) (st:List AObj):qn E 5 [Sv old,Sv now] st fun r st'=>r=Bv true∧st'=st:=qw1 old now st
end Go.Proofs.YtejoahlpbckbeaaGreatDoor
