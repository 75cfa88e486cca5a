/- Contracts and plain facts that the closing text leans on (part 9). No condition of their own beyond those that each states. -/
import Derived.Test.YtapblfabkbdgcaaGreatDoorK8
set_option maxRecDepth 100000
set_option linter.unusedVariables false
set_option linter.unusedSimpArgs false
open And renaming intro→Qa
open List renaming forall_mem_cons→Qb,length_map→Qc,length_pos_iff→Qd
namespace Go.Pl
open Go Go.Proofs Go.Proofs.YtapblfabkbdgcaaGreatDoor
theorem zcq{b:List qq}(hb:yg b)(h:eErr b=.no):(encF b).length<=42000000:=by
 have h1:=qw1 b hb.ed (qge h).2.2
 have:=hb.len
 omega
theorem qsc{text:qd}{R:List (List Fld)}(hR:∀r∈R,zo r=.no)(hl:R.length<1000000):yg (yt text (ofF (itsE text)) R).2.b:=by
 have h0:yg pat0.b:=⟨by simp[pat0],by simp[pat0],by simp[pat0]⟩
 unfold yt
 split
 .exact h0
 .split
  .exact qwx hR hl Om
  .exact h0
theorem qnw(old now:qd):yg (vn old now).2.b:=by
 have h0:yg pat0.b:=⟨by simp[pat0],by simp[pat0],by simp[pat0]⟩
 unfold vn
 split
 .split
  .rename_i h
   refine qsc (qo4 h) ?_
   have h1:=(qay now).len
   have h2:=qbc (ofF (itsE now)).ents
   unfold jv
   rw[Qc]
   omega
  .exact h0
 .exact h0
theorem qzt(text:qd)(p:PatV):yg (qc7 text p).2.b:=by
 unfold qc7
 split
 .exact qnw _ _
 .exact⟨by simp[pat0],by simp[pat0],by simp[pat0]⟩
theorem zgl(text:qd):wE (ofF (itsE text)).ents<=2*text.length:=by
 have h:=qx4 (itsE text) ⟨[],1,0⟩
 rw[show wE ([]:List EntV)=0 from rfl,Nat.zero_add]at h
 have:=zfg text
 unfold ofF
 omega
theorem qhy{text:qd}{b:List qq}(h:zn text=.no)(hb:yg b):(xd (jp (ofF (itsE text)) b).2).length<100000000:=by
 have h1:=zgl text
 have h2:=zeh (q89 (qx6 h) b)
 have h3:=(qis h).2.1
 have h4:wE (jp (ofF (itsE text)) b).2.ents<=42120000:=by
  unfold jp
  split
  .simp only
   omega
  .by_cases he:eErr b=.no
   .have:=zgh (ofF (itsE text)) b
    have:=zcq hb he
    simp only
    omega
   .unfold doF
    rw[if_neg he]
    simp only
    omega
 omega
end Go.Pl
namespace Go.Proofs.YtapblfabkbdgcaaGreatDoor
open Go Go.Av Go.RowKit Go.Proofs Go.Pl
@[reducible] def patA (p : PatV) : AV := .ag [Wv p.fr, Wv p.to', ji p.b]
theorem ql1(p:PatV):Pure (patA p):=qbi λy hy=>by
 simp only[AV.cells,List.mem_cons,List.not_mem_nil,or_false]at hy
 rcases hy with rfl|rfl|rfl
 .exact qt _
 .exact qt _
 .exact qcz _
structure qiv (l:qo):Prop where
 lb:LB 300040 l
 li:LI l
 lm:LM l
theorem zdn(text:qd):qiv (ofF (itsE text)):=⟨qmn (qay text) Om Om,qlx text,qx3 _⟩
theorem qhx(text:qd)(b:List qq):qiv (jp (ofF (itsE text)) b).2:=by
 unfold jp
 split
 .exact zdn text
 .exact⟨ze3 (qay text) Om b,ze4 (qlx text) b,ze5 (qx3 _) (qay text) Om b⟩
theorem qiv.its{l:qo}(h:qiv l):ItsB (zm l):=zc2 h.lb h.li
theorem qiv.txt{l:qo}(h:qiv l):(xd l).length<=1000000000000:=za6 h.lb h.li
theorem q14(text:qd)(b:List qq)(st:List AObj)(hb:yg b):ql E 27 [vc (ofF (itsE text)),ji b] st λr st'=>r=qg6 (jp (ofF (itsE text)) b).1 (jp (ofF (itsE text)) b).2∧st'=st:=by
 have hl:=hb.len
 have hml:(b.map j6).length=b.length:=Sx
 have hd:=λst=>zgi 300000 (ofF (itsE text)) b st (qay text) Om hb.ed Om
 generalize ofF (itsE text)=l at *
 refine q5 [.a (vc l),.a (ji b)] (qnv _ _) Tryz.func27 rfl rfl (λ_=>rfl) rfl λS0=>?_
 unfold jp
 unfold doA at hd
 by_cases h:b=[]
 .subst h
  rw[if_pos rfl]
  apply qe []
  repeat' (first|apply Qa|(intro h;try exact cDd)|exact cSd|apply qc []|refine exr ?_|refine qf ?_)
 .have h0:0<b.length:=Qd.2 h
  rw[if_neg h]
  generalize doF l b=q at *
  obtain⟨e,l2,ids⟩:=q
  cases e
  all_goals
   dsimp only at hd⊢
   apply qe []
   repeat' (first|apply Qa|(intro h;try exact cDd)|exact⟨Tryz.call51⟩|refine cpe hd ?_|exact cSd|apply qc []|refine exr ?_|refine qf ?_)
def qf7(r:ErrV×PatV):AV:=.tu [patA r.2,errA r.1]
theorem qj8(r:ErrV×PatV):Pure (qf7 r):=xw (ql1 _) (v6 _)
theorem q4b(text:qd)(R:List (List Fld))(st:List AObj)(hp:zn text=.no)
  (hE:∀st,ql E 80 [vc (ofF (itsE text)),jy R] st λr st'=>r=qgf (km (ofF (itsE text)) R)∧st'=st) (hsm:(km (ofF (itsE text)) R).length<=40->yg (km (ofF (itsE text)) R)):
  ql E 45 [Sv text,vc (ofF (itsE text)),jy R] st λr st'=>r=qf7 (yt text (ofF (itsE text)) R)∧st'=st:=by
 have hok:=qhx text (km (ofF (itsE text)) R)
 have htx:=λh=>@qhy text (km (ofF (itsE text)) R) hp h
 have hl:=(qis hp).2.1
 have hd:=λh st=>q14 text (km (ofF (itsE text)) R) st h
 have hs:=λst=>qru text st Om
 have ht:=λst=>q1y (jp (ofF (itsE text)) (km (ofF (itsE text)) R)).2 st hok.its hok.txt
 unfold yt
 unfold qgf at hE
 clear hok
 generalize ofF (itsE text)=l at *
 generalize km l R=b at *
 refine q5 [.s text,.a (vc l),.a (jy R)] (qj8 _) Tryz.func45 rfl rfl (λ_=>rfl) rfl λS0=>?_
 unfold qf7
 by_cases h:40<b.length
 .rw[if_pos h]at hE⊢
  apply qe []
  repeat' (first|apply Qa|(intro h;try exact cDd)|exact⟨Tryz.call80⟩|refine cpe hE ?_|exact cSd|apply qc []|refine exr ?_|refine qf ?_)
 .rw[if_neg h]at hE⊢
  replace hsm:=hsm Om
  replace hd:=hd hsm
  replace htx:=htx hsm
  unfold qg6 at hd
  have h2:=λst=>qru (xd (jp l b).2) st Om
  generalize jp l b=q at *
  obtain⟨e,l2⟩:=q
  dsimp only at *
  generalize xd l2=s2 at *
  cases e with
  |no=>
   rw[if_pos rfl]
   apply qe []
   repeat' (first|apply Qa|(intro h;try exact cDd)|exact⟨Tryz.call80⟩|refine cpe hE ?_|exact⟨Tryz.call27⟩|refine cpe hd ?_|exact⟨Tryz.call26⟩|refine cpe hs ?_|exact⟨Tryz.call28⟩|refine cpe ht ?_|exact⟨Tryz.call26⟩|refine cpe h2 ?_|exact cSd|apply qc []|refine exr ?_|refine qf ?_)
  |num n=>
   rw[if_neg Sx]
   apply qe []
   repeat' (first|apply Qa|(intro h;try exact cDd)|exact⟨Tryz.call80⟩|refine cpe hE ?_|exact⟨Tryz.call27⟩|refine cpe hd ?_|exact cSd|apply qc []|refine exr ?_|refine qf ?_)
  |at' a n=>
   rw[if_neg Sx]
   apply qe []
   repeat' (first|apply Qa|(intro h;try exact cDd)|exact⟨Tryz.call80⟩|refine cpe hE ?_|exact⟨Tryz.call27⟩|refine cpe hd ?_|exact cSd|apply qc []|refine exr ?_|refine qf ?_)
theorem q17(old now:qd)(st:List AObj)(h1:old.length<1000000)(h2:now.length<1000000):ql E 21 [Sv old,Sv now] st λr st'=>r=qf7 (vn old now)∧st'=st:=by
 refine q5 [.s old,.s now] (qj8 _) Tryz.func21 rfl rfl (λ_=>rfl) rfl λS0=>?_
 have ha:=λst=>qor old st h1
 have hb:=λst=>qor now st h2
 have hr:=λst=>q1m (ofF (itsE now)) st (by have:=(qay now).len;omega) (λe he=>by have:=(qlx now e he).2;omega)
 have hrl:(jv (ofF (itsE now))).length<1000000:=by
  have h1:=(qay now).len
  have h2:=qbc (ofF (itsE now)).ents
  unfold jv
  rw[Qc]
  omega
 have hbt:=λhp hsm st=>q4b old (jv (ofF (itsE now))) st hp (λst=>q85 old (jv (ofF (itsE now))) st hsm hrl) (qwx hsm hrl)
 have hgn:=qo4 (text:=now)
 unfold vn
 unfold qg6 at ha hb
 generalize ofF (itsE now)=m at *
 generalize jv m=R at *
 cases he:zn old with
 |num n=>
  rw[he]at ha
  rw[if_neg Sx]
  apply qe []
  repeat' (first|apply Qa|(intro h;try exact cDd)|exact⟨Tryz.call25⟩|refine cpe ha ?_|exact cSd|apply qc []|refine exr ?_|refine qf ?_)
 |at' a n=>
  rw[he]at ha
  rw[if_neg Sx]
  apply qe []
  repeat' (first|apply Qa|(intro h;try exact cDd)|exact⟨Tryz.call25⟩|refine cpe ha ?_|exact cSd|apply qc []|refine exr ?_|refine qf ?_)
 |no=>
  replace hbt:=hbt he
  rw[he]at ha
  rw[if_pos rfl]
  cases he2:zn now with
  |num n=>
   rw[he2]at hb
   rw[if_neg Sx]
   apply qe []
   repeat' (first|apply Qa|(intro h;try exact cDd)|exact⟨Tryz.call25⟩|refine cpe ha ?_|exact⟨Tryz.call25⟩|refine cpe hb ?_|exact cSd|apply qc []|refine exr ?_|refine qf ?_)
  |at' a n=>
   rw[he2]at hb
   rw[if_neg Sx]
   apply qe []
   repeat' (first|apply Qa|(intro h;try exact cDd)|exact⟨Tryz.call25⟩|refine cpe ha ?_|exact⟨Tryz.call25⟩|refine cpe hb ?_|exact cSd|apply qc []|refine exr ?_|refine qf ?_)
  |no=>
   replace hbt:=hbt (hgn he2)
   rw[he2]at hb
   rw[if_pos rfl]
   dsimp only at ha hb
   generalize ofF (itsE old)=l at *
   generalize yt old l R=q at *
   obtain⟨e2,p2⟩:=q
   unfold qf7 at hbt⊢
   dsimp only at hbt⊢
   cases e2
   all_goals
    apply qe []
    repeat' (first|apply Qa|(intro h;try exact cDd)|exact⟨Tryz.call25⟩|refine cpe ha ?_|exact⟨Tryz.call25⟩|refine cpe hb ?_|exact⟨Tryz.call46⟩|refine cpe hr ?_|exact⟨Tryz.call45⟩|refine cpe hbt ?_|exact cSd|apply qc []|refine exr ?_|refine qf ?_)
theorem qoz(text:qd)(p:PatV)(st:List AObj)(hl:text.length<1000000)(hb:yg p.b):ql E 9 [Sv text,patA p] st λr st'=>r=.tu [Sv (vg text p).2,errA (vg text p).1]∧st'=st:=by
 obtain⟨f,t,b⟩:=p
 refine q5 [.s text,.a (.ag [Wv f,Wv t,ji b])] (xw (qt _) (v6 _)) Tryz.func9 rfl rfl (λ_=>rfl) rfl λS0=>?_
 dsimp only at hb⊢
 have ha:=λst=>qor text st hl
 have hs:=λst=>qru text st Om
 have hok:=qhx text b
 have htx:=λh=>@qhy text b h hb
 have hd:=λst=>q14 text b st hb
 have ht:=λst=>q1y (jp (ofF (itsE text)) b).2 st hok.its hok.txt
 unfold vg
 dsimp only
 unfold qg6 at ha
 clear hok
 cases he:zn text with
 |num n=>
  rw[he]at ha
  rw[if_neg Sx]
  apply qe []
  repeat' (first|apply Qa|(intro h;try exact cDd)|exact⟨Tryz.call25⟩|refine cpe ha ?_|exact cSd|apply qc []|refine exr ?_|refine qf ?_)
 |at' a n=>
  rw[he]at ha
  rw[if_neg Sx]
  apply qe []
  repeat' (first|apply Qa|(intro h;try exact cDd)|exact⟨Tryz.call25⟩|refine cpe ha ?_|exact cSd|apply qc []|refine exr ?_|refine qf ?_)
 |no=>
  replace htx:=htx he
  rw[he]at ha
  rw[if_pos rfl]
  dsimp only at ha
  generalize ofF (itsE text)=l at *
  unfold qg6 at hd
  have h2:=λst=>qru (xd (jp l b).2) st Om
  generalize jp l b=q at *
  obtain⟨e,l2⟩:=q
  dsimp only at *
  generalize xd l2=s2 at *
  generalize addP 0 text=x at *
  generalize addP 0 s2=y at *
  have w1:(x.toNat:Int)=f.toNat↔x=f:=qr2 x f
  have w2:(y.toNat:Int)=t.toNat↔y=t:=qr2 y t
  by_cases hx:x=f
  .rw[if_pos hx]
   replace w1:=w1.2 hx
   cases e with
   |no=>
    rw[if_pos rfl]
    by_cases hy:y=t
    .rw[if_pos hy]
     replace w2:=w2.2 hy
     apply qe []
     repeat' (first|apply Qa|(intro h;try exact cDd)|exact⟨Tryz.call25⟩|refine cpe ha ?_|exact⟨Tryz.call26⟩|refine cpe hs ?_|exact⟨Tryz.call27⟩|refine cpe hd ?_|exact⟨Tryz.call28⟩|refine cpe ht ?_|exact⟨Tryz.call26⟩|refine cpe h2 ?_|exact absurd w1 (by assumption)|exact absurd w2 (by assumption)|exact cSd|apply qc []|refine exr ?_|refine qf ?_)
    .rw[if_neg hy]
     replace w2:=λh=>hy (w2.1 h)
     apply qe []
     repeat' (first|apply Qa|(intro h;try exact cDd)|exact⟨Tryz.call25⟩|refine cpe ha ?_|exact⟨Tryz.call26⟩|refine cpe hs ?_|exact⟨Tryz.call27⟩|refine cpe hd ?_|exact⟨Tryz.call28⟩|refine cpe ht ?_|exact⟨Tryz.call26⟩|refine cpe h2 ?_|exact absurd w1 (by assumption)|exact absurd w2 (by assumption)|exact absurd (by assumption) w2|exact cSd|apply qc []|refine exr ?_|refine qf ?_)
   |num n=>
    rw[if_neg Sx]
    apply qe []
    repeat' (first|apply Qa|(intro h;try exact cDd)|exact⟨Tryz.call25⟩|refine cpe ha ?_|exact⟨Tryz.call26⟩|refine cpe hs ?_|exact⟨Tryz.call27⟩|refine cpe hd ?_|exact absurd w1 (by assumption)|exact cSd|apply qc []|refine exr ?_|refine qf ?_)
   |at' a n=>
    rw[if_neg Sx]
    apply qe []
    repeat' (first|apply Qa|(intro h;try exact cDd)|exact⟨Tryz.call25⟩|refine cpe ha ?_|exact⟨Tryz.call26⟩|refine cpe hs ?_|exact⟨Tryz.call27⟩|refine cpe hd ?_|exact absurd w1 (by assumption)|exact cSd|apply qc []|refine exr ?_|refine qf ?_)
  .rw[if_neg hx]
   replace w1:=λh=>hx (w1.1 h)
   apply qe []
   repeat' (first|apply Qa|(intro h;try exact cDd)|exact⟨Tryz.call25⟩|refine cpe ha ?_|exact⟨Tryz.call26⟩|refine cpe hs ?_|exact absurd w1 (by assumption)|exact absurd (by assumption) w1|exact cSd|apply qc []|refine exr ?_|refine qf ?_)
theorem zdu(text:qd)(p:PatV)(st:List AObj)(hl:text.length<1000000)(hb:yg p.b)(hl2:(vg text p).2.length<1000000):ql E 14 [Sv text,patA p] st λr st'=>r=qf7 (qc7 text p)∧st'=st:=by
 refine q5 [.s text,.a (patA p)] (qj8 _) Tryz.func14 rfl rfl (λ_=>rfl) rfl λS0=>?_
 have ha:=λst=>qoz text p st hl hb
 have hm:=λst=>q17 (vg text p).2 text st hl2 hl
 unfold qc7
 generalize vg text p=q at *
 obtain⟨e,s⟩:=q
 dsimp only at *
 unfold qf7 at *
 generalize vn s text=m at *
 obtain⟨e2,p2⟩:=m
 cases e with
 |no=>
  rw[if_pos rfl]
  dsimp only at hm⊢
  cases e2
  all_goals
   apply qe []
   repeat' (first|apply Qa|(intro h;try exact cDd)|exact⟨Tryz.call9⟩|refine cpe ha ?_|exact⟨Tryz.call21⟩|refine cpe hm ?_|exact cSd|apply qc []|refine exr ?_|refine qf ?_)
 |num n=>
  rw[if_neg Sx]
  apply qe []
  repeat' (first|apply Qa|(intro h;try exact cDd)|exact⟨Tryz.call9⟩|refine cpe ha ?_|exact cSd|apply qc []|refine exr ?_|refine qf ?_)
 |at' a n=>
  rw[if_neg Sx]
  apply qe []
  repeat' (first|apply Qa|(intro h;try exact cDd)|exact⟨Tryz.call9⟩|refine cpe ha ?_|exact cSd|apply qc []|refine exr ?_|refine qf ?_)
def qjn(l:qo)(r:ErrV×qo):AV:=if r.1=.no then .tu [jr r.2,Iv (-9),Iv 0]else .tu [jr l,Iv r.1.pos,Iv r.1.code]
theorem q3i(l:qo)(r:ErrV×qo):Pure (qjn l r):=by
 unfold qjn
 split
 .exact yf (x6 _) (qt _) (qt _)
 .exact yf (x6 _) (qt _) (qt _)
theorem qny(text:qd)(b:List qq)(st:List AObj)(hb:yg b):ql E 30 [jr (ofF (itsE text)),ji b] st λr st'=>r=qjn (ofF (itsE text)) (jp (ofF (itsE text)) b)∧st'=st:=by
 have hl:=hb.len
 have hml:(b.map j6).length=b.length:=Sx
 have hd:=λst=>q7n 300000 (ofF (itsE text)) b st (qay text) (qx3 _) Om hb.ed Om
 generalize ofF (itsE text)=l at *
 refine q5 [.a (jr l),.a (ji b)] (q3i _ _) Tryz.func30 rfl rfl (λ_=>rfl) rfl λS0=>?_
 unfold jp
 unfold doR at hd
 by_cases h:b=[]
 .subst h
  rw[if_pos rfl]
  unfold qjn
  rw[if_pos rfl]
  apply qe []
  repeat' (first|apply Qa|(intro h;try exact cDd)|exact cSd|apply qc []|refine exr ?_|refine qf ?_)
 .have h0:0<b.length:=Qd.2 h
  rw[if_neg h]
  unfold qjn
  generalize doF l b=q at *
  obtain⟨e,l2,ids⟩:=q
  dsimp only at hd⊢
  by_cases he:e=.no
  .rw[if_pos he]at hd⊢
   apply qe []
   repeat' (first|apply Qa|(intro h;try exact cDd)|exact⟨Tryz.call55⟩|refine cpe hd ?_|exact cSd|apply qc []|refine exr ?_|refine qf ?_)
  .rw[if_neg he]at hd⊢
   apply qe []
   repeat' (first|apply Qa|(intro h;try exact cDd)|exact⟨Tryz.call55⟩|refine cpe hd ?_|exact cSd|apply qc []|refine exr ?_|refine qf ?_)
def qid(r:ErrV×PatV):AV:=.tu [patA r.2,Iv r.1.pos,Iv r.1.code]
theorem qre(r:ErrV×PatV):Pure (qid r):=yf (ql1 _) (qt _) (qt _)
theorem qfz{l:qo}{b:List qq}(h:(jp l b).1≠.no):(jp l b).1.code≠0:=by
 unfold jp at h⊢
 split
 .rename_i hb
  rw[if_pos hb]at h
  exact absurd rfl h
 .rename_i hb
  rw[if_neg hb]at h
  exact q87 h
set_option maxHeartbeats 4000000 in
theorem q0u(old now:qd)(st:List AObj)(h1:old.length<1000000)(h2:now.length<1000000):ql E 33 [Sv old,Sv now] st λr st'=>r=qid (vn old now)∧st'=st:=by
 refine q5 [.s old,.s now] (qre _) Tryz.func33 rfl rfl (λ_=>rfl) rfl λS0=>?_
 have ha:=λst=>ql5 old st h1
 have hb:=λst=>ql5 now st h2
 have hc1:=@qep old
 have hc2:=@qep now
 unfold ofR at ha hb
 unfold vn
 by_cases he:zn old=.no
 .rw[if_pos he,he]at ha
  rw[if_pos he]
  by_cases he2:zn now=.no
  .rw[if_pos he2,he2]at hb
   rw[if_pos he2]
   have hgn:=qo4 he2
   have hrl:(jv (ofF (itsE now))).length<1000000:=by
    have h1:=(qay now).len
    have h2:=qbc (ofF (itsE now)).ents
    unfold jv
    rw[Qc]
    omega
   have hr:=λst=>qn0 (ofF (itsE now)) st (by have:=(qay now).len;omega)
   have hE:=λst=>qyn old (jv (ofF (itsE now))) st hrl
   have hsm:=@qwx old (jv (ofF (itsE now))) hgn hrl
   have hdn:=λh st=>qny old (km (ofF (itsE old)) (jv (ofF (itsE now)))) st h
   have hs:=λst=>qhf old st Om
   have hok:=qhx old (km (ofF (itsE old)) (jv (ofF (itsE now))))
   have htx:=λh=>@qhy old (km (ofF (itsE old)) (jv (ofF (itsE now)))) he h
   have ht:=λst=>qn2 (jp (ofF (itsE old)) (km (ofF (itsE old)) (jv (ofF (itsE now))))).2 st (by have:=hok.lb.len;omega) hok.txt
   have hcd:=@qfz (ofF (itsE old)) (km (ofF (itsE old)) (jv (ofF (itsE now))))
   unfold yt
   clear hok hc1 hc2
   generalize ofF (itsE old)=l at *
   generalize ofF (itsE now)=m at *
   generalize jv m=R at *
   generalize km l R=b at *
   have hml:(b.map j6).length=b.length:=Sx
   unfold qid
   by_cases h40:40<b.length
   .rw[if_pos h40]
    apply qe []
    repeat' (first|apply Qa|(intro h;try exact cDd)|exact⟨Tryz.call29⟩|refine cpe ha ?_|exact⟨Tryz.call29⟩|refine cpe hb ?_|exact⟨Tryz.call60⟩|refine cpe hr ?_|exact⟨Tryz.call59⟩|refine cpe hE ?_|exact cSd|apply qc []|refine exr ?_|refine qf ?_)
   .rw[if_neg h40]
    replace hsm:=hsm Om
    replace hdn:=hdn hsm
    replace htx:=htx hsm
    have h2:=λst=>qhf (xd (jp l b).2) st Om
    unfold qjn at hdn
    generalize jp l b=q at *
    obtain⟨e,l2⟩:=q
    dsimp only at *
    generalize xd l2=s2 at *
    by_cases hee:e=.no
    .subst hee
     rw[if_pos rfl]at hdn⊢
     apply qe []
     repeat' (first|apply Qa|(intro h;try exact cDd)|exact⟨Tryz.call29⟩|refine cpe ha ?_|exact⟨Tryz.call29⟩|refine cpe hb ?_|exact⟨Tryz.call60⟩|refine cpe hr ?_|exact⟨Tryz.call59⟩|refine cpe hE ?_|exact⟨Tryz.call30⟩|refine cpe hdn ?_|exact⟨Tryz.call22⟩|refine cpe hs ?_|exact⟨Tryz.call31⟩|refine cpe ht ?_|exact⟨Tryz.call22⟩|refine cpe h2 ?_|exact cSd|apply qc []|refine exr ?_|refine qf ?_)
    .rw[if_neg hee]at hdn⊢
     replace hcd:=hcd hee
     generalize e.code=c1 at *
     generalize e.pos=c2 at *
     apply qe []
     repeat' (first|apply Qa|(intro h;try exact cDd)|exact⟨Tryz.call29⟩|refine cpe ha ?_|exact⟨Tryz.call29⟩|refine cpe hb ?_|exact⟨Tryz.call60⟩|refine cpe hr ?_|exact⟨Tryz.call59⟩|refine cpe hE ?_|exact⟨Tryz.call30⟩|refine cpe hdn ?_|exact cSd|apply qc []|refine exr ?_|refine qf ?_)
  .rw[if_neg he2]at hb
   rw[if_neg he2]
   replace hc2:=hc2 he2
   unfold qid
   dsimp only at hb⊢
   generalize(zn now).code=c1 at *
   generalize(zn now).pos=c2 at *
   apply qe []
   repeat' (first|apply Qa|(intro h;try exact cDd)|exact⟨Tryz.call29⟩|refine cpe ha ?_|exact⟨Tryz.call29⟩|refine cpe hb ?_|exact cSd|apply qc []|refine exr ?_|refine qf ?_)
 .rw[if_neg he]at ha
  rw[if_neg he]
  replace hc1:=hc1 he
  unfold qid
  dsimp only at ha⊢
  generalize(zn old).code=c1 at *
  generalize(zn old).pos=c2 at *
  apply qe []
  repeat' (first|apply Qa|(intro h;try exact cDd)|exact⟨Tryz.call29⟩|refine cpe ha ?_|exact cSd|apply qc []|refine exr ?_|refine qf ?_)
set_option maxHeartbeats 4000000 in
theorem ql4(text:qd)(p:PatV)(st:List AObj)(hl:text.length<1000000)(hb:yg p.b):ql E 10 [Sv text,patA p] st λr st'=>r=.tu [Sv (vg text p).2,Iv (vg text p).1.pos,Iv (vg text p).1.code]∧st'=st:=by
 obtain⟨f,t,b⟩:=p
 refine q5 [.s text,.a (.ag [Wv f,Wv t,ji b])] (yf (qt _) (qt _) (qt _)) Tryz.func10 rfl rfl (λ_=>rfl) rfl λS0=>?_
 dsimp only at hb⊢
 have ha:=λst=>ql5 text st hl
 have hc1:=@qep text
 have hs:=λst=>qhf text st Om
 have hok:=qhx text b
 have htx:=λh=>@qhy text b h hb
 have hd:=λst=>qny text b st hb
 have ht:=λst=>qn2 (jp (ofF (itsE text)) b).2 st (by have:=hok.lb.len;omega) hok.txt
 have hcd:=@qfz (ofF (itsE text)) b
 unfold vg
 dsimp only
 unfold ofR at ha
 clear hok
 by_cases he:zn text=.no
 .replace htx:=htx he
  rw[if_pos he,he]at ha
  rw[if_pos he]
  generalize ofF (itsE text)=l at *
  unfold qjn at hd
  have h2:=λst=>qhf (xd (jp l b).2) st Om
  generalize jp l b=q at *
  obtain⟨e,l2⟩:=q
  dsimp only at *
  generalize xd l2=s2 at *
  generalize addP 0 text=x at *
  generalize addP 0 s2=y at *
  have w1:(x.toNat:Int)=f.toNat↔x=f:=qr2 x f
  have w2:(y.toNat:Int)=t.toNat↔y=t:=qr2 y t
  by_cases hx:x=f
  .rw[if_pos hx]
   replace w1:=w1.2 hx
   by_cases hee:e=.no
   .subst hee
    rw[if_pos rfl]at hd⊢
    by_cases hy:y=t
    .rw[if_pos hy]
     replace w2:=w2.2 hy
     apply qe []
     repeat' (first|apply Qa|(intro h;try exact cDd)|exact⟨Tryz.call29⟩|refine cpe ha ?_|exact⟨Tryz.call22⟩|refine cpe hs ?_|exact⟨Tryz.call30⟩|refine cpe hd ?_|exact⟨Tryz.call31⟩|refine cpe ht ?_|exact⟨Tryz.call22⟩|refine cpe h2 ?_|exact absurd w1 (by assumption)|exact absurd w2 (by assumption)|exact cSd|apply qc []|refine exr ?_|refine qf ?_)
    .rw[if_neg hy]
     replace w2:=λh=>hy (w2.1 h)
     apply qe []
     repeat' (first|apply Qa|(intro h;try exact cDd)|exact⟨Tryz.call29⟩|refine cpe ha ?_|exact⟨Tryz.call22⟩|refine cpe hs ?_|exact⟨Tryz.call30⟩|refine cpe hd ?_|exact⟨Tryz.call31⟩|refine cpe ht ?_|exact⟨Tryz.call22⟩|refine cpe h2 ?_|exact absurd w1 (by assumption)|exact absurd w2 (by assumption)|exact absurd (by assumption) w2|exact cSd|apply qc []|refine exr ?_|refine qf ?_)
   .rw[if_neg hee]at hd⊢
    replace hcd:=hcd hee
    generalize e.code=c1 at *
    generalize e.pos=c2 at *
    apply qe []
    repeat' (first|apply Qa|(intro h;try exact cDd)|exact⟨Tryz.call29⟩|refine cpe ha ?_|exact⟨Tryz.call22⟩|refine cpe hs ?_|exact⟨Tryz.call30⟩|refine cpe hd ?_|exact absurd w1 (by assumption)|exact cSd|apply qc []|refine exr ?_|refine qf ?_)
  .rw[if_neg hx]
   replace w1:=λh=>hx (w1.1 h)
   apply qe []
   repeat' (first|apply Qa|(intro h;try exact cDd)|exact⟨Tryz.call29⟩|refine cpe ha ?_|exact⟨Tryz.call22⟩|refine cpe hs ?_|exact absurd w1 (by assumption)|exact absurd (by assumption) w1|exact cSd|apply qc []|refine exr ?_|refine qf ?_)
 .rw[if_neg he]at ha
  rw[if_neg he]
  replace hc1:=hc1 he
  dsimp only at ha⊢
  generalize(zn text).code=c1 at *
  generalize(zn text).pos=c2 at *
  apply qe []
  repeat' (first|apply Qa|(intro h;try exact cDd)|exact⟨Tryz.call29⟩|refine cpe ha ?_|exact cSd|apply qc []|refine exr ?_|refine qf ?_)
theorem qnb{text:qd}{p:PatV}(h:(vg text p).1≠.no):(vg text p).1.code≠0:=by
 have h1:=@qep text
 have h2:=@qfz (ofF (itsE text)) p.b
 unfold vg at h⊢
 split
 .rename_i g1
  rw[if_pos g1]at h
  split
  .rename_i g2
   rw[if_pos g2]at h
   split
   .rename_i g3
    rw[if_pos g3]at h
    split
    .rename_i g4
     rw[if_pos g4]at h
     exact absurd rfl h
    .simp[ErrV.code]
   .rename_i g3
    exact h2 g3
  .simp[ErrV.code]
 .rename_i g1
  exact h1 g1
theorem qzv(text:qd)(R:List (List Fld)):okE (yt text (ofF (itsE text)) R).1:=by
 unfold yt
 split
 .simp[okE]
 .split
  .trivial
  .exact qra λh=>qfz h
theorem q9x(old now:qd):okE (vn old now).1:=by
 unfold vn
 split
 .split
  .exact qzv _ _
  .exact qra λh=>qep h
 .exact qra λh=>qep h
theorem qs7(text:qd)(p:PatV):okE (vg text p).1:=qra λh=>qnb h
theorem q8x(text:qd)(p:PatV):okE (qc7 text p).1:=by
 unfold qc7
 split
 .exact q9x _ _
 .exact qs7 _ _
theorem q0r(text:qd)(p:PatV)(st:List AObj)(hl:text.length<1000000)(hb:yg p.b)(hl2:(vg text p).2.length<1000000):ql E 15 [Sv text,patA p] st λr st'=>r=qid (qc7 text p)∧st'=st:=by
 refine q5 [.s text,.a (patA p)] (qre _) Tryz.func15 rfl rfl (λ_=>rfl) rfl λS0=>?_
 have ha:=λst=>ql4 text p st hl hb
 have hm:=λst=>q0u (vg text p).2 text st hl2 hl
 have hcd:=@qnb text p
 unfold qc7
 generalize vg text p=q at *
 obtain⟨e,s⟩:=q
 dsimp only at *
 unfold qid at *
 generalize vn s text=m at *
 by_cases he:e=.no
 .subst he
  rw[if_pos rfl]
  apply qe []
  repeat' (first|apply Qa|(intro h;try exact cDd)|exact⟨Tryz.call10⟩|refine cpe ha ?_|exact⟨Tryz.call33⟩|refine cpe hm ?_|exact cSd|apply qc []|refine exr ?_|refine qf ?_)
 .rw[if_neg he]
  replace hcd:=hcd he
  dsimp only at ha⊢
  generalize e.code=c1 at *
  generalize e.pos=c2 at *
  apply qe []
  repeat' (first|apply Qa|(intro h;try exact cDd)|exact⟨Tryz.call10⟩|refine cpe ha ?_|exact cSd|apply qc []|refine exr ?_|refine qf ?_)
theorem q0q(p:PatV)(st:List AObj)(hl:p.b.length<1000000)(hf:∀x∈p.b,x.fields.length<1000000):ql E 8 [patA p] st λr st'=>r=patA p∧st'=st:=by
 refine q5 [.a (patA p)] (ql1 _) Tryz.func8 rfl rfl (λ_=>rfl) rfl λS0=>?_
 have ho:=λst=>zfv p.b st hl hf
 apply qe []
 repeat' (first|apply Qa|(intro h;try exact cDd)|exact⟨Tryz.call24⟩|refine cpe ho ?_|exact cSd|apply qc []|refine exr ?_|refine qf ?_)
theorem qy0(p:PatV)(st:List AObj)(hl:p.b.length<1000000)(hf:∀x∈p.b,x.fields.length<1000000):ql E 13 [patA p,patA p] st λr st'=>r=Bv true∧st'=st:=by
 refine q5 [.a (patA p),.a (patA p)] (qt _) Tryz.func13 rfl rfl (λ_=>rfl) rfl λS0=>?_
 have ho:=λst=>qz4 p.b st hl hf
 apply qe []
 repeat' (first|apply Qa|(intro h;try exact cDd)|exact⟨Tryz.call32⟩|refine cpe ho ?_|exact cSd|apply qc []|refine exr ?_|refine qf ?_)
 all_goals first|rfl|(exfalso;exact(by assumption:¬_) rfl)|(simp at *;done)
def ya:qd:=[65,58,32,49,10]
theorem qv2:vn ya []=(.no,⟨addP 0 ya,addP 0 [],[⟨2,1,[]⟩]⟩):=by
 have p1:zn ya=.no:=by decide +kernel
 have p2:zn []=.no:=by decide +kernel
 have s1:stzF (ofF (itsE ya)).ents=[(1,[([65],[49])])]:=by decide +kernel
 have r1:jv (ofF (itsE []))=[]:=by decide +kernel
 have w1:wayF [([([65],[49])]:List Fld)] []=[3]:=by simp[wayF,wayB,wj,qe8]
 have d1:km (ofF (itsE ya)) []=[⟨2,1,[]⟩]:=by
  unfold km
  rw[s1,show([((1:Int),[(([65],[49]):Fld)])].map Prod.snd)=[[(([65],[49]):Fld)]] from rfl,w1]
  rfl
 have d2:(jp (ofF (itsE ya)) [⟨2,1,[]⟩]).1=.no:=by decide +kernel
 have d3:xd (jp (ofF (itsE ya)) [⟨2,1,[]⟩]).2=[]:=by decide +kernel
 unfold vn
 rw[if_pos p1,if_pos p2,r1]
 unfold yt
 rw[d1,if_neg Sx,if_pos d2,d3]
theorem q5d(st:List AObj):ql E 6 [] st λr st'=>r=Bv true∧st'=st:=by
 have hm:=λst=>q17 ya [] st (by decide) (by decide)
 have q0:=qv2
 have h1:(vn ya []).1=.no:=by rw[q0]
 have h2:(vn ya []).2.b.map (λe=>e.kind)=[2]:=by rw[q0];rfl
 have h3:(vn ya []).2.to'=addP 0 []:=by rw[q0]
 have h4:¬(vn ya []).2.fr=(vn ya []).2.to':=by rw[q0];decide +kernel
 have h5:(vg ya (vn ya []).2).2=[]:=by rw[(qt7 h1).2,q0];decide +kernel
 have h6:=(qt7 h1).1
 have hsm:=qnw ya []
 have ha:=λst=>qoz ya (vn ya []).2 st (by decide) hsm
 have hs:=λst=>qhf [] st (by decide)
 rw[h5,h6]at ha
 unfold qf7 at hm
 rw[h1]at hm
 clear h1 h5 h6 hsm
 generalize(vn ya []).2=p at *
 obtain⟨f,t,b⟩:=p
 dsimp only at *
 obtain⟨x,rfl,hx⟩:∃x,b=[x]∧x.kind=2:=by
  cases b with
  |nil=>simp at h2
  |cons x r=>
   simp at h2
   exact⟨x,by rw[h2.2],h2.1⟩
 subst h3
 have w1:¬((f.toNat:Int)=(addP 0 []).toNat):=λh=>h4 ((qr2 f (addP 0 [])).1 h)
 generalize addP 0 []=t at *
 obtain⟨k,i,fs⟩:=x
 dsimp only at hx
 subst hx
 unfold ya at hm ha
 refine q5 [] (qt _) Tryz.func6 rfl rfl (λ_=>rfl) rfl λS0=>?_
 apply qe []
 repeat' (first|apply Qa|(intro h;try exact cDd)|exact⟨Tryz.call21⟩|refine cpe hm ?_|exact⟨Tryz.call9⟩|refine cpe ha ?_|exact⟨Tryz.call22⟩|refine cpe hs ?_|exact absurd rfl (by assumption)|exact absurd (by assumption) w1|exact cSd|apply qc []|refine exr ?_|refine qf ?_)
 all_goals first|rfl|(simp;done)|(simp[w1];done)
def ArgP(p:PatV):Prop:=ArgE p.b
theorem q0f{b:List qq}(hA:ArgE b)(h:qb5 b 0=false):yg b:=by
 have hl:=qxi h
 exact⟨zda hA hl,by have:=hl.1;omega,λx hx=>(hl.2 x hx).len⟩
set_option maxHeartbeats 4000000 in
theorem qsp(text:qd)(p:PatV)(st:List AObj)(hA:ArgP p):ql E 3 [Sv text,patA p] st λr st'=>r=Bv true∧st'=st:=by
 refine q5 [.s text,.a (patA p)] (qt _) Tryz.func3 rfl rfl (λ_=>rfl) rfl λS0=>?_
 have hal:=q5d
 by_cases h1:1500<text.length
 .obtain⟨f,t,b⟩:=p
  apply qe []
  repeat' (first|apply Qa|(intro h;try exact cDd)|exact⟨Tryz.call6⟩|refine cpe hal ?_|exact cSd|apply qc []|refine exr ?_|refine qf ?_)
 have hh:=λst=>q9m p.b st hA.1 λx hx=>(hA.2 x hx).1
 cases hv:qb5 p.b 0 with
 |true=>
  rw[hv]at hh
  obtain⟨f,t,b⟩:=p
  apply qe []
  repeat' (first|apply Qa|(intro h;try exact cDd)|exact⟨Tryz.call6⟩|refine cpe hal ?_|exact⟨Tryz.call7⟩|refine cpe hh ?_|exact cSd|apply qc []|refine exr ?_|refine qf ?_)
 |false=>
  rw[hv]at hh
  have hsm:=q0f hA hv
  have hfl:=hsm.fl
  have hlb:=hsm.len
  have hpr:=λst=>q0q p st Om hfl
  have hsa:=λst=>qy0 p st Om hfl
  have ha:=λst=>qoz text p st Om hsm
  have hr:=λst=>ql4 text p st Om hsm
  have hok:=qs7 text p
  have hnm:=λst=>q6x (vg text p).1 st hok
  have hat:=λst=>zbd (vg text p).1 st
  have hb:=λh st=>zdu text p st Om hsm h
  have hrb:=λh st=>q0r text p st Om hsm h
  have hbs:=qzt text p
  have hbl:=hbs.len
  have hsb:=λst=>qy0 (qc7 text p).2 st Om hbs.fl
  have hbo:=q8x text p
  have hnb:=λst=>q6x (qc7 text p).1 st hbo
  have hab:=λst=>zbd (qc7 text p).1 st
  unfold qf7 at hb
  unfold qid at hrb
  clear hA hsm hfl hok hbs hbl hbo hlb hv
  generalize vg text p=q at *
  generalize qc7 text p=q2 at *
  obtain⟨e,s⟩:=q
  obtain⟨e2,p2⟩:=q2
  obtain⟨f2,t2,b2⟩:=p2
  obtain⟨f,t,b⟩:=p
  dsimp only at *
  by_cases h4:4000<s.length
  .clear hb hrb
   cases e
   all_goals
    apply qe []
    repeat' (first|apply Qa|(intro h;try exact cDd)|exact⟨Tryz.call6⟩|refine cpe hal ?_|exact⟨Tryz.call7⟩|refine cpe hh ?_|exact⟨Tryz.call8⟩|refine cpe hpr ?_|exact⟨Tryz.call9⟩|refine cpe ha ?_|exact⟨Tryz.call10⟩|refine cpe hr ?_|exact⟨Tryz.call11⟩|refine cpe hnm ?_|exact⟨Tryz.call12⟩|refine cpe hat ?_|exact⟨Tryz.call13⟩|refine cpe hsa ?_|exact cSd|apply qc []|refine exr ?_|refine qf ?_)
    all_goals first|rfl|(simp;done)
  .replace hb:=hb Om
   replace hrb:=hrb Om
   cases e<;>cases e2
   all_goals
    apply qe []
    repeat' (first|apply Qa|(intro h;try exact cDd)|exact⟨Tryz.call6⟩|refine cpe hal ?_|exact⟨Tryz.call7⟩|refine cpe hh ?_|exact⟨Tryz.call8⟩|refine cpe hpr ?_|exact⟨Tryz.call9⟩|refine cpe ha ?_|exact⟨Tryz.call10⟩|refine cpe hr ?_|exact⟨Tryz.call11⟩|refine cpe hnm ?_|exact⟨Tryz.call12⟩|refine cpe hat ?_|exact⟨Tryz.call11⟩|refine cpe hnb ?_|exact⟨Tryz.call12⟩|refine cpe hab ?_|exact⟨Tryz.call13⟩|refine cpe hsa ?_|exact⟨Tryz.call14⟩|refine cpe hb ?_|exact⟨Tryz.call15⟩|refine cpe hrb ?_|exact⟨Tryz.call13⟩|refine cpe hsb ?_|exact cSd|apply qc []|refine exr ?_|refine qf ?_)
    all_goals first|rfl|(simp;done)
end Go.Proofs.YtapblfabkbdgcaaGreatDoor
namespace Go.Proofs.YtapblfabkbdgcaaGreatDoor
open Go Go.Av Go.RowKit Go.WideShapes Go.ChangeShapes Go.Deep Go.Proofs Go.Pl
theorem q1u{n:Int}(h:(Lit.int .u32 n).wf=true):∃x:BitVec 32,(.v (.int .u32 n):AV)=Wv x:=by
 simp only[Lit.wf,Bool.and_eq_true,decide_eq_true_eq]at h
 have h1:IntKind.u32.min=0:=by decide
 have h2:IntKind.u32.max=4294967295:=by decide
 rw[h1,h2]at h
 refine⟨BitVec.ofNat 32 n.toNat,?_⟩
 have:((BitVec.ofNat 32 n.toNat).toNat:Int)=n:=by
  rw[BitVec.toNat_ofNat,Nat.mod_eq_of_lt Om]
  omega
 show AV.v (.int .u32 n)=AV.v (.int .u32 _)
 rw[this]
theorem zdt:Opn Tryz.prog 25 λa=>∃p:PatV,a=patA p∧ArgP p:=by
 intro H enc W fuel cs x h
 obtain⟨a,⟨vs,rfl,hl,hv⟩,hr⟩:=qj4 (As:=[(some (.int .u32),IsI .u32),(some (.int .u32),IsI .u32),(some (.slice 55),λa=>∃xs:List qq,a=ji xs∧ArgE xs)]) Kr Kr Kr Kr
  (Qb.2 ⟨⟨λ_ h=>qvq h,qvp _⟩,Qb.2 ⟨⟨λ_ h=>qvq h,qvp _⟩,Qb.2 ⟨⟨λ_ h=>q68 h,q66⟩,nofun⟩⟩⟩) H enc W fuel cs x h
 match vs,hl with
 | [v0,v1,v2],_=>
  obtain⟨n0,e0,w0⟩:=hv 0 _ _ rfl rfl
  obtain⟨n1,e1,w1⟩:=hv 1 _ _ rfl rfl
  obtain⟨xs,rfl,hA⟩:=hv 2 _ _ rfl rfl
  obtain⟨x0,q0⟩:=q1u w0
  obtain⟨x1,q1⟩:=q1u w1
  refine⟨_,⟨⟨x0,x1,xs⟩,?_,hA⟩,hr⟩
  rw[e0,e1,q0,q1]
theorem zfz(a:AV)(h:∃p:PatV,a=patA p∧ArgP p):∃xs,a=.ag xs:=by
 obtain⟨p,rfl,_⟩:=h
 exact⟨_,rfl⟩
theorem qso(text:qd)(p:PatV)(hp:ArgP p)(st:List AObj):ql E 3 [Sv text,patA p] st λr st'=>r=Bv true∧st'=st:=qsp text p st hp
end Go.Proofs.YtapblfabkbdgcaaGreatDoor
