/- Contracts and plain facts that the closing text leans on (part 7). No condition of their own beyond those that each states. -/
import Derived.Test.YtmoklbacdkmkaaaGreatDoorK6
import Derived.Laws.StructEq
set_option maxRecDepth 100000
set_option linter.unusedVariables false
set_option linter.unusedSimpArgs false
namespace Go.Proofs.YtmoklbacdkmkaaaGreatDoor
open Go Go.Av Go.RowKit Go.Proofs Go.Pl
def xb (text:Bytes):List LnV→Nat→List Bytes
 | [],frm=>[text.drop frm]
 |l::r,frm=>if frm<l.at'∧¬ [32,32] <+: l.text then (text.take l.at').drop frm::xb text r l.at' else xb text r frm
def qdw (text:Bytes):List Bytes:=xb text (lns text) 0
theorem q3w (l m:Bytes) (st:List AObj) (h:m <+: l):qn E 164 [Sv l,Sv m] st fun r st'=>r=Bv true∧st'=st:=by
 have:=qdz l m st
 rw [(w6 l m).2 h] at this
 exact this
theorem q3l (l m:Bytes) (st:List AObj) (h:¬ m <+: l):qn E 164 [Sv l,Sv m] st fun r st'=>r=Bv false∧st'=st:=by
 have:=qdz l m st
 have hf:Lib.hasPrefix l m=false:=by
  cases hb:Lib.hasPrefix l m with
  |false=>rfl
  |true=>exact absurd ((w6 l m).1 hb) h
 rw [hf] at this
 exact this
theorem q8t (text:Bytes) (st:List AObj) (hl:text.length<1000000):qn E 175 [Sv text] st fun r st'=>r=Ss (qdw text)∧st'=st:=by
 refine vc [.s text] (qy8 _) Tryz.func175 rfl rfl (fun _=>rfl) rfl fun S0=>?_
 apply qh []
 repeat' (first|apply And.intro|(intro h;try exact cDd)|exact⟨Tryz.call100⟩|(refine Exists.intro _ ⟨qgv _,?_⟩)|exact cSd|apply qb []|refine exr ?_|refine qm ?_)
 refine qdh (X:=List Bytes×Nat) text 2 3 [0,1,2] (fun (out,frm)=>⟨[(1,.a (.pp [Sv text])),(3,.bx 0 0),(4,.bx 1 0),(7,.fn (.func 163) [] [.bx 2 0])],
   [(0,some (.cells 85 [.tp 3])),(1,some (.cells 3 [.i frm])),(2,some (.cells 9 [.s text])),(3,some (.tip 1 9 (out.map fun x=>Sv x)))],4⟩) _
  (fun k rest (out,frm)=>∃ a,a+rest.length=text.length∧frm≤a∧out.length≤k∧k≤a∧out++xb text (xd k a rest) frm=qdw text) (fun _ _=>False) ([],0) ⟨0,by simp,by omega,by simp,by omega,rfl⟩ ?_ id (by omega) (fun _=>rfl) rfl (fun _=>rfl) (fun _=>rfl) rfl ?_ ?_ (fun _ _ h=>h.elim)
 ·skip
  repeat' (first|apply And.intro|(intro h;try exact cDd)|exact cSd|apply qb []|refine exr ?_|refine qm ?_)
 ·rintro k rest ⟨out,frm⟩ ⟨a,ha,hfa,hok,hka,hrun⟩ hne hle
  have hcons:=qhr (k:=k) (a:=a) hne
  have hul:=kf 10 rest
  have hr0:0<rest.length:=List.length_pos_iff.2 hne
  have hpl:=ju 10 rest
  have hpa:a+(upto 10 rest).length+1+(past 10 rest).length=text.length∨past 10 rest=[]:=by
   by_cases h10:10∈rest
   ·have:=qdi h10
    exact .inl (by omega)
   ·right
    unfold past
    rw [qeg h10]
    simp
  have hpast:∀ f,xb text (xd (k+1) (a+(upto 10 rest).length+1) (past 10 rest)) f=xb text (xd (k+1) (text.length - (past 10 rest).length) (past 10 rest)) f:=fun f=>by
   rcases hpa with h|h
   ·have:a+(upto 10 rest).length+1=text.length - (past 10 rest).length:=by omega
    rw [this]
   ·rw [h,qjz,qjz]
  have e:(text.length:Int) - rest.length=(a:Int):=by omega
  rw [hcons,xb] at hrun
  unfold qi7
  rw [e]
  by_cases hp:[32,32] <+: upto 10 rest
  ·have hhp:=fun st=>q3w (upto 10 rest) [32,32] st hp
   rw [if_neg (fun h=>h.2 hp),hpast] at hrun
   refine RA.mk fun S F ρ rd=>?_
   apply qh []
   repeat' (first|apply And.intro|(intro h;try exact cDd)|(refine RB.mk fun S rd=>?_;apply qh [])|exact⟨Tryz.call164⟩|refine cpe hhp ?_|(refine Exists.intro (out,frm) ⟨⟨text.length - (past 10 rest).length,by omega,by omega,by omega,by omega,hrun⟩,?_⟩)|exact cSd|apply qb []|refine exr ?_|refine qm ?_)
  ·have hhp:=fun st=>q3l (upto 10 rest) [32,32] st hp
   by_cases hfr:frm<a
   ·rw [if_pos ⟨hfr,hp⟩,hpast] at hrun
    refine RA.mk fun S F ρ rd=>?_
    apply qh []
    repeat' (first|apply And.intro|(intro h;try exact cDd)|(refine RB.mk fun S rd=>?_;apply qh [25])|exact⟨Tryz.call164⟩|refine cpe hhp ?_|(refine Exists.intro (out++[(text.take a).drop frm],a) ⟨⟨text.length - (past 10 rest).length,by omega,by omega,by simp;omega,by omega,by rw [← hrun];simp⟩,?_⟩)|exact cSd|apply qb [25]|refine exr ?_|refine qm ?_)
    all_goals first|(simp [SV.evs];omega)|(simp [SV.evs,SV.ev];done)
   ·rw [if_neg (fun h=>hfr h.1),hpast] at hrun
    refine RA.mk fun S F ρ rd=>?_
    apply qh []
    repeat' (first|apply And.intro|(intro h;try exact cDd)|(refine RB.mk fun S rd=>?_;apply qh [])|exact⟨Tryz.call164⟩|refine cpe hhp ?_|(refine Exists.intro (out,frm) ⟨⟨text.length - (past 10 rest).length,by omega,by omega,by omega,by omega,hrun⟩,?_⟩)|exact cSd|apply qb []|refine exr ?_|refine qm ?_)
 ·rintro k ⟨out,frm⟩ ⟨a,ha,hfa,hok,hka,hrun⟩
  rw [qjz,xb] at hrun
  repeat' (first|apply And.intro|(intro h;try exact cDd)|exact cSd|apply qb []|refine exr ?_|refine qm ?_)
  rw [← hrun]
  simp
def decP:List Bytes→List qp→Option (List qp)
 | [],acc=>some acc
 |p::r,acc=>match begE (upto 10 p) with
  |none=>none
  |some (k,n)=>if (qcw (past 10 p)).2=true∧acc.length≠40 then decP r (acc++[⟨k,n,(qcw (past 10 p)).1⟩]) else none
def decF (text:Bytes):Option (List qp):=if 50000<text.length then none else match decP (qdw text) [] with
 |none=>none
 |some b=>if eErr b = .no∧encF b=text then some b else none
def decA:Option (List qp)→AV
 |none=>.tu [jk [],.ifc 76 (Iv 2)]
 |some b=>.tu [jk b,.v .nilIface]
theorem q2d (x:Option (List qp)):Pure (decA x):=by
 rcases x with _|b
 ·exact va (qje _) (qb1 (q6 _))
 ·exact va (qje _) (q6 _)
theorem qi1 (text:Bytes):∀ (ls:List LnV) (f:Nat),(∀ p∈xb text ls f,p.length≤text.length)∧(xb text ls f).length≤ls.length+1
 | [],f=>by simp [xb]
 |l::r,f=>by
  unfold xb
  split
  ·obtain⟨h1,h2⟩:=qi1 text r l.at'
   refine⟨fun p hp=>?_,by simp;omega⟩
   rcases List.mem_cons.1 hp with rfl|hp
   ·simp;omega
   ·exact h1 p hp
  ·obtain⟨h1,h2⟩:=qi1 text r f
   exact⟨h1,by simp;omega⟩
theorem qra {l:Bytes} {k n:Int} (h:begE l=some (k,n)) : -9223372036854775808≤n∧n≤9223372036854775807:=by
 have key:∀ {j:Int} {n:Int},tryB j l=some n→-9223372036854775808≤n∧n≤9223372036854775807:=fun {j n} h=>by
  unfold tryB at h
  split at h
  ·split at h
   ·rename_i v hv
    cases h
    exact Lib.atoiAll_bounds hv
   ·simp at h
  ·simp at h
 unfold begE at h
 split at h
 ·rename_i v hv;simp at h;rw [← h.2];exact key hv
 ·split at h
  ·rename_i v hv;simp at h;rw [← h.2];exact key hv
  ·split at h
   ·rename_i v hv;simp at h;rw [← h.2];exact key hv
   ·simp at h
theorem qmu (text:Bytes):GF (qcw text).1:=by
 unfold qcw
 split
 ·exact⟨by simp,by simp⟩
 ·split
  ·exact⟨by simp,by simp⟩
  ·rename_i f r hr
   exact (q1b (qnl _) f (by rw [hr];simp)).1
theorem q3o {k n:Int} {fs:List Fld} (h1 : -9223372036854775808≤n) (h2:n≤9223372036854775807) (hg:GF fs):EdB ⟨k,n,fs⟩:=
 ⟨fun f hf=>by have:=(hg.2 f hf).1.2.1;omega,by have:=hg.1;simp only;omega,h1,h2⟩
set_option maxHeartbeats 4000000 in
theorem qvq (text:Bytes) (st:List AObj) (hl:text.length<1000000):qn E 105 [Sv text] st fun r st'=>r=decA (decF text)∧st'=st:=by
 refine vc [.s text] (q2d _) Tryz.func105 rfl rfl (fun _=>rfl) rfl fun S0=>?_
 by_cases hbig:50000<text.length
 ·have hd:decF text=none:=if_pos hbig
  rw [hd]
  apply qh []
  repeat' (first|apply And.intro|(intro h;try exact cDd)|exact cSd|apply qb []|refine exr ?_|refine qm ?_)
 have hdf:decF text=match decP (qdw text) [] with
  |none=>none
  |some b=>if eErr b = .no∧encF b=text then some b else none:=if_neg hbig
 have hpl:=(qi1 text (lns text) 0).1
 have hpn:=(qi1 text (lns text) 0).2
 have hln:=qsl _ text 0 0 (Nat.le_refl _)
 have hpe:xb text (lns text) 0=qdw text:=rfl
 have hle:(lns text).length≤text.length:=hln
 rw [hpe] at hpl hpn
 have hml:((qdw text).map fun x=>Sv x).length=(qdw text).length:=by simp
 have hpc:=fun st=>q8t text st hl
 generalize qdw text=L at hdf hpl hpn hml hpc
 apply qh []
 repeat' (first|apply And.intro|(intro h;try exact cDd)|exact⟨Tryz.call175⟩|refine cpe hpc ?_|exact cSd|apply qb []|refine exr ?_|refine qm ?_)
 refine yt (X:=Nat×List qp) (fun (k,acc)=>⟨[(0,.s text),(4,.tp 0),(21,.a (Ss L)),(22,.i L.length),(23,.i k)],[(0,some (.tip 3 97 (acc.map wy)))],1⟩)
  (fun (k,acc)=>k≤L.length∧acc.length≤k∧(∀ x∈acc,EdB x)∧decP (L.drop k) acc=decP L []) (fun x=>L.length - x.1) (0,[]) ⟨by omega,by simp,by simp,rfl⟩ ?_ ?_
 ·skip
  repeat' (first|apply And.intro|(intro h;try exact cDd)|exact cSd|apply qb []|refine exr ?_|refine qm ?_)
  all_goals first|(simp;done)
 ·rintro⟨j,acc⟩ ⟨hj,hal,hB,hrun⟩
  have hma:(acc.map wy).length=acc.length:=by simp
  by_cases hc:j<L.length
  ·obtain⟨p,hx⟩:∃ p,L[j]? = some p:=⟨_,List.getElem?_eq_getElem hc⟩
   have hg:(L.map fun x=>Sv x)[j]? = some (Sv p):=by simp [hx]
   have hd:L.drop j=p::L.drop (j+1):=by
    obtain⟨hlt,e⟩:=List.getElem?_eq_some_iff.1 hx
    rw [List.drop_eq_getElem_cons hlt,e]
   have hpp:=hpl p (List.mem_of_getElem? hx)
   have hul:=kf 10 p
   have hpal:=ju 10 p
   have hcu:=fun st=>qhv p 10 st (by omega)
   have hbc:=fun st=>q7y (upto 10 p) st (by omega)
   have hgf:=qmu (past 10 p)
   have hfc:=fun st=>q6t (past 10 p) st (by omega)
   rw [hd,decP] at hrun
   cases hbe:begE (upto 10 p) with
   |none=>
    rw [hbe] at hrun hbc
    simp only at hrun
    rw [← hrun] at hdf
    simp only at hdf
    rw [hdf]
    apply qh []
    repeat' (first|apply And.intro|(intro h;try exact cDd)|(refine Exists.intro (j) ⟨by omega,_,hg,?_⟩)|exact⟨Tryz.call96⟩|refine cpe hcu ?_|exact⟨Tryz.call176⟩|refine cpe hbc ?_|exact⟨Tryz.call177⟩|refine cpe hfc ?_|exact cSd|apply qb []|refine exr ?_|refine qm ?_)
   |some kn=>
    obtain⟨kd,n⟩:=kn
    have hid:=qra hbe
    rw [hbe] at hrun hbc
    simp only at hrun
    obtain⟨fs,hfs⟩:∃ x,x=(qcw (past 10 p)).1:=⟨_,rfl⟩
    rw [← hfs] at hrun hfc hgf
    cases hok:(qcw (past 10 p)).2 with
    |false=>
     rw [hok] at hrun hfc
     rw [if_neg (by simp)] at hrun
     rw [← hrun] at hdf
     simp only at hdf
     rw [hdf]
     apply qh []
     repeat' (first|apply And.intro|(intro h;try exact cDd)|(refine Exists.intro (j) ⟨by omega,_,hg,?_⟩)|exact⟨Tryz.call96⟩|refine cpe hcu ?_|exact⟨Tryz.call176⟩|refine cpe hbc ?_|exact⟨Tryz.call177⟩|refine cpe hfc ?_|exact cSd|apply qb []|refine exr ?_|refine qm ?_)
    |true=>
     rw [hok] at hrun hfc
     by_cases h40:acc.length=40
     ·rw [if_neg (by simp [h40])] at hrun
      rw [← hrun] at hdf
      simp only at hdf
      rw [hdf]
      apply qh []
      repeat' (first|apply And.intro|(intro h;try exact cDd)|(refine Exists.intro (j) ⟨by omega,_,hg,?_⟩)|exact⟨Tryz.call96⟩|refine cpe hcu ?_|exact⟨Tryz.call176⟩|refine cpe hbc ?_|exact⟨Tryz.call177⟩|refine cpe hfc ?_|exact cSd|apply qb []|refine exr ?_|refine qm ?_)
     ·rw [if_pos ⟨rfl,h40⟩] at hrun
      have hB2:∀ x∈acc++[⟨kd,n,fs⟩],EdB x:=fun x hx=>by
       rcases List.mem_append.1 hx with hx|hx
       ·exact hB x hx
       ·obtain rfl:=List.mem_singleton.1 hx
        exact q3o hid.1 hid.2 hgf
      apply qh []
      repeat' (first|apply And.intro|(intro h;try exact cDd)|(refine Exists.intro (j) ⟨by omega,_,hg,?_⟩)|exact⟨Tryz.call96⟩|refine cpe hcu ?_|exact⟨Tryz.call176⟩|refine cpe hbc ?_|exact⟨Tryz.call177⟩|refine cpe hfc ?_|(refine Exists.intro (j+1,acc++[⟨kd,n,fs⟩]) ⟨⟨by omega,by simp;omega,hB2,hrun⟩,by simp only;omega,?_⟩)|exact cSd|apply qb []|refine exr ?_|refine qm ?_)
      all_goals (simp;done)
  ·have hd:L.drop j=[]:=List.drop_eq_nil_of_le (by omega)
   rw [hd,decP] at hrun
   rw [← hrun] at hdf
   simp only at hdf
   cases he:eErr acc with
   |no=>
    have hen:=fun st=>qr1 acc st hB he
    by_cases ht:encF acc=text
    ·rw [if_pos ⟨he,ht⟩] at hdf
     rw [hdf]
     rw [ht] at hen
     apply qh []
     repeat' (first|apply And.intro|(intro h;try exact cDd)|exact⟨Tryz.call75⟩|refine cpe hen ?_|exact cSd|apply qb []|refine exr ?_|refine qm ?_)
    ·rw [if_neg fun h=>ht h.2] at hdf
     rw [hdf]
     apply qh []
     repeat' (first|apply And.intro|(intro h;try exact cDd)|exact⟨Tryz.call75⟩|refine cpe hen ?_|exact cSd|apply qb []|refine exr ?_|refine qm ?_)
     all_goals exact absurd ht (by assumption)
   |num n=>
    have hen:=fun st=>qio acc st (.num n) hB (by omega) he fun h=>by
     have:=(qi5 acc).1 (by rw [he];exact h)
     rw [he] at this
     simp at this
    rw [if_neg fun h=>by rw [he] at h;simp at h] at hdf
    rw [hdf]
    apply qh []
    repeat' (first|apply And.intro|(intro h;try exact cDd)|exact⟨Tryz.call75⟩|refine cpe hen ?_|exact cSd|apply qb []|refine exr ?_|refine qm ?_)
   |at' a n=>
    have hen:=fun st=>qio acc st (.at' a n) hB (by omega) he fun h=>by
     have:=(qi5 acc).1 (by rw [he];exact h)
     rw [he] at this
     simp at this
    rw [if_neg fun h=>by rw [he] at h;simp at h] at hdf
    rw [hdf]
    apply qh []
    repeat' (first|apply And.intro|(intro h;try exact cDd)|exact⟨Tryz.call75⟩|refine cpe hen ?_|exact cSd|apply qb []|refine exr ?_|refine qm ?_)
theorem ql5 {α : Type} [DecidableEq α] {a b:List α} {k:Nat} {d : α} (hl:a.length=b.length) (hk:k<a.length) (h:a.take k=b.take k) (h2:a.getD k d=b.getD k d):a.take (k+1)=b.take (k+1):=by
 rw [List.take_succ_eq_append_getElem hk,List.take_succ_eq_append_getElem (by omega),h]
 congr 2
 simpa [List.getD,hk,show k<b.length by omega] using h2
end Go.Proofs.YtmoklbacdkmkaaaGreatDoor
namespace Go.Pl
open Go Go.Proofs Go.Proofs.YtmoklbacdkmkaaaGreatDoor
theorem yf (s:Bytes) (r:List Bytes):zj (s::r)=s++10::zj r:=by simp [zj]
theorem qda:∀ (ls:List Bytes),(∀ s∈ls,10∉s)→zr (zj ls)=ls.map fun s=>(s,true)
 | [],_=>by simp [zj,wg]
 |s::r,h=>by
  have hs:=h s (by simp)
  rw [yf,we (by simp),w9 _ hs,yr _ hs,qda r fun x hx=>h x (by simp [hx])]
  simp
theorem qxj {f:Fld} (h:jw f):∀ s∈jf f,10∉s:=fun s hs=>by
 unfold jf at hs
 rcases List.mem_cons.1 hs with rfl|hs
 ·have h1:=qe1 f.2 _ (qny f.2)
  have h2:=h.1.2.2.2.2.2
  unfold kw
  split <;> simp_all
 ·obtain⟨x,hx,rfl⟩:=List.mem_map.1 hs
  have h1:=qe1 f.2 x (List.mem_of_mem_tail hx)
  have:=qpc h1
  simp [this]
theorem qli {f:Fld} (h:jw f):∃ hd mr,jf f=hd::mr∧qy hd=4∧∀ s∈mr,qy s=3:=by
 refine⟨_,_,rfl,qsq h.1 (qe1 f.2 _ (qny f.2)),fun s hs=>?_⟩
 obtain⟨x,hx,rfl⟩:=List.mem_map.1 hs
 exact qrs x (qe1 f.2 x (List.mem_of_mem_tail hx))
theorem q3a {p:PSt} {k:Int} {t:Bytes} (ht:qy t=3) (hl:p.lines≠[]):wb p k t true=(none,{ p with lines:=p.lines++[t],block:=p.block++[t] }):=by
 have ha:je p k t true (qy t)=(none,{ p with lines:=p.lines++[t] }):=by
  unfold je
  rw [if_pos ht,if_neg hl,if_pos rfl]
 unfold wb
 rw [ha,ht]
 simp
theorem qr9 {p q:PSt} {k:Int} {t:Bytes} (ht:qy t=4) (hf:jl p=(none,q)):wb p k t true=(none,{ j7 q k t with block:=q.block++[t] }):=by
 have ha:je p k t true (qy t)=(none,q):=by
  unfold je
  rw [if_neg (by omega),if_neg (by omega)]
  exact hf
 unfold wb
 rw [ha,ht]
 simp
theorem qoc:∀ (m:List Bytes) (k:Nat) (p:PSt) (ls:List (Bytes×Bool)),(∀ s∈m,qy s=3)→p.lines≠[] →
  runL k (m.map (fun s=>(s,true))++ls) p=runL (k+m.length) ls { p with lines:=p.lines++m,block:=p.block++m }
 | [],k,p,ls,_,_=>by simp
 |s::m,k,p,ls,h,hl=>by
  have hs:=h s (by simp)
  rw [List.map_cons,List.cons_append,runL,q3a hs hl]
  simp only
  rw [qoc m (k+1) _ ls (fun x hx=>h x (by simp [hx])) (by simp)]
  simp only [List.append_assoc,List.cons_append,List.nil_append,List.length_cons]
  congr 1
  omega
theorem qph {g:Fld} (hg:jw g) (frm:Int) (its:List j6) (blk:List Bytes) (done:List Fld) (rc:Int):jl ⟨jf g,frm,false,its,blk,done,rc⟩=(none,⟨[],frm,false,its,blk,done++[g],rc⟩):=by
 have hu:=qtc hg
 unfold jl
 rw [if_neg (by simp [jf]),hu]
 simp
theorem qvb:∀ (r:List Fld) (done:List Fld) (g:Fld) (k:Nat) (frm:Int) (blk:List Bytes),jw g→(∀ f∈r,jw f)→done.length+1+r.length≤40→blk≠[] →
  (runL k ((r.flatMap jf).map fun s=>(s,true)) ⟨jf g,frm,false,[],blk,done,0⟩).1=none∧(runL k ((r.flatMap jf).map fun s=>(s,true)) ⟨jf g,frm,false,[],blk,done,0⟩).2.items=[⟨3,zj (blk++r.flatMap jf),done++g::r⟩]
 | [],done,g,k,frm,blk,hg,_,_,hb=>by
  have he:endP ⟨jf g,frm,false,[],blk,done,0⟩=(none,xz ⟨[],frm,false,[],blk,done++[g],0⟩):=by
   unfold endP
   rw [qph hg]
  simp only [List.flatMap_nil,List.map_nil,runL,he,List.append_nil]
  refine⟨trivial,?_⟩
  unfold xz
  rw [if_neg hb]
  simp
 |f::r,done,g,k,frm,blk,hg,hr,hl,hb=>by
  have hf:=hr f (by simp)
  obtain⟨hd,mr,hlf,hk4,hk3⟩:=qli hf
  simp only [List.length_cons] at hl
  have hrun:runL k (((f::r).flatMap jf).map fun s=>(s,true)) ⟨jf g,frm,false,[],blk,done,0⟩=runL (k+1+mr.length) ((r.flatMap jf).map fun s=>(s,true)) ⟨jf f,k,false,[],blk++jf f,done++[g],0⟩:=by
   rw [List.flatMap_cons,List.map_append,hlf,List.map_cons,List.cons_append,runL,qr9 hk4 (qph hg frm [] blk done 0)]
   simp only
   rw [qoc mr (k+1) _ _ hk3 (by simp [j7])]
   have hfu:decide ((done++[g]).length=40∨((done++[g]).length=0∧(0:Int)=400))=false:=by
    simp
    omega
   simp only [j7,hfu,List.append_assoc,List.cons_append,List.nil_append]
  rw [hrun]
  have ih:=qvb r (done++[g]) f (k+1+mr.length) k (blk++jf f) hf (fun x hx=>hr x (by simp [hx])) (by simp;omega) (by simp [hb])
  rw [ih.1,ih.2]
  simp [List.flatMap_cons]
theorem qg7 (fs:List Fld):jy fs=zj (fs.flatMap jf):=by
 induction fs with
 |nil=>rfl
 |cons f r ih=>
  rw [List.flatMap_cons,qc5,← ih]
  simp [jy]
theorem qix {fs:List Fld} (h:∀ f∈fs,jw f):∀ s∈fs.flatMap jf,10∉s:=fun s hs=>by
 obtain⟨f,hf,hs⟩:=List.mem_flatMap.1 hs
 exact qxj (h f hf) s hs
theorem q0j {fs:List Fld} (hg:GF fs) (hne:fs≠[]):j8 (jy fs)=(none,[⟨3,jy fs,fs⟩]):=by
 have hl:=qda _ (qix hg.2)
 rw [← qg7] at hl
 cases fs with
 |nil=>exact absurd rfl hne
 |cons f r=>
  have hf:=hg.2 f (by simp)
  obtain⟨hd,mr,hlf,hk4,hk3⟩:=qli hf
  have hlen:=hg.1
  simp only [List.length_cons] at hlen
  have hrun:runL 0 (((f::r).flatMap jf).map fun s=>(s,true)) p0=runL (0+1+mr.length) ((r.flatMap jf).map fun s=>(s,true)) ⟨jf f,(0:Nat),false,[],jf f,[],0⟩:=by
   have hfl:jl p0=(none,p0):=rfl
   rw [List.flatMap_cons,List.map_append,hlf,List.map_cons,List.cons_append,runL,qr9 hk4 hfl]
   simp only
   rw [qoc mr (0+1) _ _ hk3 (by simp [j7])]
   simp [j7,p0]
  have ih:=qvb r [] f (0+1+mr.length) (0:Nat) (jf f) hf (fun x hx=>hg.2 x (by simp [hx])) (by simp;omega) (by simp [jf])
  unfold j8
  rw [hl,hrun,ih.1]
  simp only
  rw [ih.2]
  rw [qg7,List.flatMap_cons,List.nil_append]
theorem q1t:j8 []=(none,[]):=by
 unfold j8
 rw [wg]
 rfl
theorem qm7 {ls:List Bytes} (h:∀ s∈ls,10∉s):qab [32,32] (zj ls)=zj (ls.map fun s=>[32,32]++s):=by
 unfold qab indF
 rw [qda ls h]
 simp only [zj,List.flatMap_map,xo,if_pos]
theorem qwn {ls:List Bytes} (h:∀ s∈ls,10∉s):∀ s∈ls.map (fun s=>[32,32]++s),10∉s:=fun s hs=>by
 obtain⟨x,hx,rfl⟩:=List.mem_map.1 hs
 have:=h x hx
 simp [this]
theorem qs7 {ls:List Bytes} (h:∀ s∈ls,10∉s):kj [32,32] (qab [32,32] (zj ls))=(zj ls,true):=by
 rw [qm7 h]
 unfold kj
 rw [qda _ (qwn h),if_pos]
 ·simp [zj,List.flatMap_map,xo]
 ·intro x hx
  obtain⟨s,hs,rfl⟩:=List.mem_map.1 hx
  obtain⟨y,_,rfl⟩:=List.mem_map.1 hs
  exact List.prefix_append _ _
theorem qs3 {fs:List Fld} (hl:fs.length≤40) (hg:∀ f∈fs,jw f):qcw (qab [32,32] (jy fs))=(fs,true):=by
 have hd:kj [32,32] (qab [32,32] (jy fs))=(jy fs,true):=by
  rw [qg7]
  exact qs7 (qix hg)
 unfold qcw
 rw [hd]
 simp only
 by_cases h0:fs=[]
 ·subst h0
  have hp:j8 (jy [])=(none,[]):=q1t
  rw [hp]
  simp [recsF,jy]
 ·rw [q0j ⟨hl,hg⟩ h0]
  simp [recsF]
theorem q05 {j k:Int} {s:Bytes} (hj:j=1∨j=2∨j=3) (hk:k=1∨k=2∨k=3) (hne:j≠k):¬ qat j <+: qat k++s:=by
 rintro⟨t,ht⟩
 have h2:=congrArg (List.take 2) ht
 rcases hj with rfl|rfl|rfl <;> rcases hk with rfl|rfl|rfl <;> first|exact absurd rfl hne|(revert h2;simp [qat])
theorem q38 {x:qp} (hk:x.kind=1∨x.kind=2∨x.kind=3) (h1 : -9223372036854775808≤x.id) (h2:x.id≤9223372036854775807):begE (vi x)=some (x.kind,x.id):=by
 have hl:vi x=qat x.kind++Lib.itoa x.id:=by
  unfold vi
  rw [if_pos (by omega)]
 have hself:tryB x.kind (vi x)=some x.id:=by
  unfold tryB
  rw [hl,if_pos (List.prefix_append _ _),List.drop_left,qku h1 h2]
 have hoth:∀ j:Int,(j=1∨j=2∨j=3)→j≠x.kind→tryB j (vi x)=none:=fun j hj hne=>by
  unfold tryB
  rw [hl,if_neg (q05 hj hk hne)]
 unfold begE
 rcases hk with h|h|h
 ·rw [h] at hself hoth ⊢
  rw [hself]
 ·rw [h] at hself hoth ⊢
  rw [hoth 1 (by simp) (by decide),hself]
 ·rw [h] at hself hoth ⊢
  rw [hoth 1 (by simp) (by decide),hoth 2 (by simp) (by decide),hself]
def qb9 (x:qp):List Bytes:=(x.fields.flatMap jf).map fun s=>[32,32]++s
theorem qm6 (v:Int):∀ c∈Lib.itoa v,c≠10∧c≠32:=fun c hc=>by
 by_cases hv:v<0
 ·rw [qhn hv] at hc
  rcases List.mem_cons.1 hc with rfl|hc
  ·decide
  ·have:=wo _ _ (Nat.le_refl _) c hc
   constructor <;> rintro rfl <;> simp at this
 ·rw [qh3 (by omega)] at hc
  have:=wo _ _ (Nat.le_refl _) c hc
  constructor <;> rintro rfl <;> simp at this
theorem qcx (x:qp):10∉vi x:=by
 unfold vi
 split
 ·rename_i hk
  have h1:=qm6 x.id
  intro hc
  rcases List.mem_append.1 hc with hc|hc
  ·have:x.kind=1∨x.kind=2∨x.kind=3:=by omega
   rcases this with h|h|h <;> rw [h] at hc <;> revert hc <;> decide
  ·exact (h1 10 hc).1 rfl
 ·simp
theorem qxf {x:qp} (hk:x.kind=1∨x.kind=2∨x.kind=3):¬ [32,32] <+: vi x:=by
 unfold vi
 rw [if_pos (by omega)]
 rintro⟨t,ht⟩
 have h2:=congrArg (List.take 2) ht
 rcases hk with h|h|h <;> rw [h] at h2 <;> revert h2 <;> simp [qat]
theorem qf5 {x:qp} (hg:∀ f∈x.fields,jw f):jo x=zj (vi x::qb9 x):=by
 unfold jo qb9
 rw [yf,qg7,qm7 (qix hg)]
 simp
theorem q2c {x:qp} (hg:∀ f∈x.fields,jw f):∀ s∈qb9 x,10∉s:=qwn (qix hg)
theorem qe8 (text:Bytes):∀ (m:List Bytes) (k a f:Nat) (R:Bytes),(∀ s∈m,10∉s∧[32,32] <+: s)→∃ k',xb text (xd k a (zj m++R)) f=xb text (xd k' (a+(zj m).length) R) f
 | [],k,a,f,R,_=>⟨k,by simp [zj]⟩
 |s::m,k,a,f,R,h=>by
  obtain⟨h10,hp⟩:=h s (by simp)
  have e:zj (s::m)++R=s++10::(zj m++R):=by rw [yf];simp
  obtain⟨k',ih⟩:=qe8 text m (k+1) (a+s.length+1) f R fun x hx=>h x (by simp [hx])
  refine⟨k',?_⟩
  rw [e,qhr (by simp),w9 _ h10,yr _ h10,xb,if_neg (fun h=>h.2 hp),ih,yf]
  congr 2
  simp
  omega
theorem qll {x:qp} (hg:∀ f∈x.fields,jw f):∀ s∈qb9 x,10∉s∧[32,32] <+: s:=fun s hs=>⟨q2c hg s hs,by
 obtain⟨y,_,rfl⟩:=List.mem_map.1 hs
 exact List.prefix_append _ _⟩
structure EncG (x:qp):Prop where
 kind:x.kind=1∨x.kind=2∨x.kind=3
 len:x.fields.length≤40
 good:∀ f∈x.fields,jw f
 id1 : -9223372036854775808≤x.id
 id2:x.id≤9223372036854775807
theorem qqt:∀ (r:List qp) (D:Bytes) (x:qp) (k:Nat),EncG x→(∀ y∈r,EncG y) →
  xb (D++(jo x++encF r)) (xd k (D.length+((vi x).length+1)) (zj (qb9 x)++encF r)) D.length=jo x::r.map jo
 | [],D,x,k,hx,_=>by
  obtain⟨k',h⟩:=qe8 (D++(jo x++encF [])) (qb9 x) k (D.length+((vi x).length+1)) D.length (encF []) (qll hx.good)
  rw [h]
  have e:encF []=[]:=rfl
  rw [e,qjz,xb]
  simp
 |y::r,D,x,k,hx,hr=>by
  have hy:=hr y (by simp)
  obtain⟨k',h⟩:=qe8 (D++(jo x++encF (y::r))) (qb9 x) k (D.length+((vi x).length+1)) D.length (encF (y::r)) (qll hx.good)
  rw [h]
  have e:encF (y::r)=vi y++10::(zj (qb9 y)++encF r):=by
   have:encF (y::r)=jo y++encF r:=by simp [encF]
   rw [this,qf5 hy.good,yf]
   simp
  have hlx:(jo x).length=(vi x).length+1+(zj (qb9 x)).length:=by
   rw [qf5 hx.good,yf]
   simp
   omega
  have e2:encF (y::r)=jo y++encF r:=by simp [encF]
  have hpos:D.length+((vi x).length+1)+(zj (qb9 x)).length=(D++jo x).length:=by
   rw [List.length_append,hlx]
   omega
  rw [hpos]
  have hc:xd k' (D++jo x).length (encF (y::r))=⟨k',(D++jo x).length,vi y,true⟩::xd (k'+1) ((D++jo x).length+(vi y).length+1) (zj (qb9 y)++encF r):=by
   rw [e,qhr (by simp),w9 _ (qcx y),yr _ (qcx y)]
   simp
  have hlt:D.length<(D++jo x).length:=by rw [List.length_append,hlx];omega
  rw [hc,xb,if_pos ⟨hlt,qxf hy.kind⟩]
  have ih:=qqt r (D++jo x) y (k'+1) hy fun z hz=>hr z (by simp [hz])
  have et:D++(jo x++encF (y::r))=(D++jo x)++(jo y++encF r):=by rw [e2];simp
  rw [et]
  have ed:((D++jo x++(jo y++encF r)).take (D++jo x).length).drop D.length=jo x:=by
   rw [List.take_left,List.drop_left]
  rw [ed,List.map_cons]
  simp only
  rw [show (D++jo x).length+(vi y).length+1=(D++jo x).length+((vi y).length+1) by omega,ih]
theorem q3i {x:qp} {r:List qp} (hx:EncG x) (hr:∀ y∈r,EncG y):qdw (encF (x::r))=(x::r).map jo:=by
 have e2:encF (x::r)=jo x++encF r:=by simp [encF]
 have e:encF (x::r)=vi x++10::(zj (qb9 x)++encF r):=by
  rw [e2,qf5 hx.good,yf]
  simp
 have h:=qqt r [] x 1 hx hr
 simp only [List.nil_append,List.length_nil,Nat.zero_add] at h
 have hc:lns (encF (x::r))=⟨0,0,vi x,true⟩::xd 1 ((vi x).length+1) (zj (qb9 x)++encF r):=by
  unfold lns
  rw [e,qhr (by simp),w9 _ (qcx x),yr _ (qcx x)]
  simp
 unfold qdw
 rw [hc,xb,if_neg (by simp),e2,h]
 rfl
theorem quc:∀ (r acc:List qp),(∀ y∈r,EncG y)→acc.length+r.length≤40→decP (r.map jo) acc=some (acc++r)
 | [],acc,_,_=>by simp [decP]
 |x::r,acc,h,hl=>by
  have hx:=h x (by simp)
  simp only [List.length_cons] at hl
  have hu:upto 10 (jo x)=vi x:=by
   unfold jo
   rw [List.append_assoc]
   exact w9 _ (qcx x)
  have hp:past 10 (jo x)=qab [32,32] (jy x.fields):=by
   unfold jo
   rw [List.append_assoc]
   exact yr _ (qcx x)
  have hfl:=qs3 hx.len hx.good
  rw [List.map_cons,decP,hu,q38 hx.kind hx.id1 hx.id2]
  simp only [hp,hfl]
  rw [if_pos ⟨trivial,by omega⟩]
  have ih:=quc r (acc++[⟨x.kind,x.id,x.fields⟩]) (fun y hy=>h y (by simp [hy])) (by simp;omega)
  rw [ih]
  simp
theorem qy1 {x:qp} (h:gErr x = .no) (hB:EdB x):EncG x:=by
 obtain⟨h1,h2⟩:=qmq h
 refine⟨?_,h1,h2,hB.id1,hB.id2⟩
 unfold gErr at h
 split at h
 ·exact .inr (.inl (by assumption))
 ·split at h
  ·rename_i hk;omega
  ·simp at h
theorem q75 {b:List qp} (he:eErr b = .no) (hB:∀ x∈b,EdB x) (hl:(encF b).length≤50000):decF (encF b)=some b:=by
 obtain⟨h1,h40,hg⟩:=qfu he
 have hG:∀ y∈b,EncG y:=fun y hy=>qy1 (hg y hy) (hB y hy)
 unfold decF
 rw [if_neg (by omega)]
 cases b with
 |nil=>simp at h1
 |cons x r=>
  rw [q3i (hG x (by simp)) (fun y hy=>hG y (by simp [hy])),quc (x::r) [] hG (by simp at h40 ⊢;omega)]
  simp only [List.nil_append]
  rw [if_pos ⟨he,trivial⟩]
theorem q5g {text:Bytes} {b:List qp} (h:decF text=some b):eErr b = .no∧encF b=text∧text.length≤50000:=by
 unfold decF at h
 split at h
 ·simp at h
 ·split at h
  ·simp at h
  ·split at h
   ·rename_i hc
    cases h
    exact⟨hc.1,hc.2,by omega⟩
   ·simp at h
def SpL (L:List Bytes):Prop:=L≠[]∧∀ s∈L,10∉s∧[32] <+: s
def encL (b:List qp):List Bytes:=b.flatMap fun x=>vi x::qb9 x
theorem q26 {b:List qp} (hg:∀ x∈b,EncG x):encF b=zj (encL b):=by
 induction b with
 |nil=>rfl
 |cons x r ih=>
  have e:encL (x::r)=(vi x::qb9 x)++encL r:=by simp [encL]
  have e2:encF (x::r)=jo x++encF r:=by simp [encF]
  rw [e,qc5,e2,qf5 (hg x (by simp)).good,ih fun y hy=>hg y (by simp [hy])]
theorem q8n {x:qp} (hk:x.kind=1∨x.kind=2∨x.kind=3):[32] <+: vi x:=by
 unfold vi
 rw [if_pos (by omega)]
 rcases hk with h|h|h <;> rw [h] <;> exact⟨_,rfl⟩
theorem q79 {b:List qp} (hne:b≠[]) (hg:∀ x∈b,EncG x):SpL (encL b):=by
 refine⟨?_,fun s hs=>?_⟩
 ·cases b with
  |nil=>exact absurd rfl hne
  |cons x r=>simp [encL]
 ·obtain⟨x,hx,hs⟩:=List.mem_flatMap.1 hs
  have hG:=hg x hx
  rcases List.mem_cons.1 hs with rfl|hs
  ·exact⟨qcx x,q8n hG.kind⟩
  ·obtain⟨h1,t,ht⟩:=qll hG.good s hs
   exact⟨h1,[32]++t,by rw [← ht];rfl⟩
theorem q8z {L:List Bytes} (h:SpL L):sp true (zj L)=true:=by
 rw [← qkk _ (zj L) (Nat.le_refl _),qda L fun s hs=>(h.2 s hs).1]
 intro x hx
 obtain⟨s,hs,rfl⟩:=List.mem_map.1 hx
 exact (h.2 s hs).2
theorem q3j {L:List Bytes} (h:SpL L):(zj L)[0]? = some 32:=by
 obtain⟨hne,hs⟩:=h
 cases L with
 |nil=>exact absurd rfl hne
 |cons s r=>
  obtain⟨t,ht⟩:=(hs s (by simp)).2
  rw [yf,← ht]
  rfl
theorem qsa:∀ (L:List Bytes),L≠[]→(zj L).getLast? = some 10
 | [],h=>absurd rfl h
 | [s],_=>by rw [yf];simp [zj]
 |s::t::r,_=>by
  have ih:=qsa (t::r) (by simp)
  have hne:zj (t::r)≠[]:=fun e=>by rw [e] at ih;simp at ih
  rw [yf,List.getLast?_append,List.getLast?_cons,ih]
  simp
theorem q4a {b:List qp} (he:eErr b = .no) (hB:∀ x∈b,EdB x) (hl:(encF b).length≤50000):xh (encF b):=by
 obtain⟨h1,h40,hg⟩:=qfu he
 have hG:∀ y∈b,EncG y:=fun y hy=>qy1 (hg y hy) (hB y hy)
 have hne:b≠[]:=fun e=>by subst e;simp at h1
 have hS:=q79 hne hG
 have ht:=q26 hG
 have hh:=q3j hS
 have hlast:=qsa _ hS.1
 rw [← ht] at hh hlast
 have hsp:=q8z hS
 rw [← ht] at hsp
 refine⟨?_,hl,hlast,by rw [qiq];exact hsp⟩
 rcases hc:encF b with _ | ⟨c,_ | ⟨d,r⟩⟩
 ·rw [hc] at hh;simp at hh
 ·rw [hc] at hh hlast
  simp at hh hlast
  rw [hh] at hlast
  simp at hlast
 ·simp
end Go.Pl
namespace Go.Proofs.YtmoklbacdkmkaaaGreatDoor
open Go Go.Av Go.RowKit Go.Proofs Go.Pl
def q3e (b:List qp):Prop:=b.length≤51∧∀ x∈b,q7a x.fields
def ArgE (b:List qp):Prop:=b.length<9223372036854775808∧∀ x∈b,x.fields.length<9223372036854775808∧-9223372036854775808≤x.id∧x.id≤9223372036854775807
theorem q78 {b:List qp} (hA:ArgE b) (h:q3e b):∀ x∈b,EdB x:=fun x hx=>⟨fun f hf=>((h.2 x hx).val f hf).1,(hA.2 x hx).1,(hA.2 x hx).2.1,(hA.2 x hx).2.2⟩
def ArgX (x:qp):Prop:=x.fields.length<9223372036854775808∧-9223372036854775808≤x.id∧x.id≤9223372036854775807
theorem q5o:Opn Tryz.prog 97 fun a=>∃ x:qp,a=wy x∧ArgX x:=by
 intro H enc W fuel cs x h
 obtain⟨a,⟨vs,rfl,hl,hv⟩,hr⟩:=qqp (As:=[(some (.int .i64),IsI .i64),(some (.int .i64),IsI .i64),(some (.slice 156),fun a=>∃ xs:List FldV,a=kv xs∧xs.length≤maxLen)]) (by kernel_rfl) (by kernel_rfl) (by kernel_rfl) (by kernel_rfl)
  (List.forall_mem_cons.2 ⟨⟨fun _ h=>q7f h,q64 _⟩,List.forall_mem_cons.2 ⟨⟨fun _ h=>q7f h,q64 _⟩,List.forall_mem_cons.2 ⟨⟨fun _ h=>q42 h,q5b⟩,nofun⟩⟩⟩) H enc W fuel cs x h
 match vs,hl with
 | [v0,v1,v2],_=>
  obtain⟨n0,rfl,w0⟩:=hv 0 _ _ rfl rfl
  obtain⟨n1,rfl,w1⟩:=hv 1 _ _ rfl rfl
  obtain⟨xs,rfl,m⟩:=hv 2 _ _ rfl rfl
  exact⟨_,⟨⟨n0,n1,xs⟩,rfl,q3v m,lit_i64 w1⟩,hr⟩
theorem qvf {α : Type} {g : α→AV} {P : α→Prop}:∀ {xs:List AV},(∀ x∈xs,∃ a,x=g a∧P a)→∃ ys:List α,xs=ys.map g∧∀ a∈ys,P a
 | [],_=>⟨[],rfl,by simp⟩
 |x::r,h=>by
  obtain⟨ys,hys,has⟩:=qvf (xs:=r) fun y hy=>h y (List.mem_cons_of_mem _ hy)
  obtain⟨a,rfl,ha⟩:=h x (by simp)
  subst hys
  refine⟨a::ys,rfl,fun b hb=>?_⟩
  rcases List.mem_cons.1 hb with rfl|hb
  ·exact ha
  ·exact has b hb
theorem q16 {t:TypeId} (hu:Tryz.prog.underlying t=some (.slice 97)):Opn Tryz.prog t fun a=>∃ xs:List qp,a=jk xs∧ArgE xs:=by
 intro H enc W fuel cs x h
 obtain⟨a,⟨xs,rfl,hl,hx⟩,hr⟩:=q3n (sz:=3) hu (by kernel_rfl) (by decide) q5o H enc W fuel cs x h
 obtain⟨rs,rfl,hrs⟩:=qvf hx
 exact⟨_,⟨rs,rfl,q3v (by simpa using hl),hrs⟩,hr⟩
theorem q3d:One fun a=>∃ xs:List qp,a=jk xs∧ArgE xs:=by rintro _ ⟨xs,rfl,_⟩;rfl
theorem q1z:∀ (ps:List Bytes) (acc b:List qp),(∀ x∈acc,EdB x)→decP ps acc=some b→∀ x∈b,EdB x
 | [],acc,b,h,e=>by
  rw [decP] at e
  cases e
  exact h
 |p::r,acc,b,h,e=>by
  rw [decP] at e
  split at e
  ·simp at e
  ·rename_i k n hb
   split at e
   ·refine q1z r _ b (fun x hx=>?_) e
    rcases List.mem_append.1 hx with hx|hx
    ·exact h x hx
    ·obtain rfl:=List.mem_singleton.1 hx
     exact q3o (qra hb).1 (qra hb).2 (qmu _)
   ·simp at e
theorem q9g {text:Bytes} {b:List qp} (h:decF text=some b):∀ x∈b,EdB x:=by
 unfold decF at h
 split at h
 ·simp at h
 ·split at h
  ·simp at h
  ·rename_i c hc
   split at h
   ·cases h
    exact q1z _ _ _ (by simp) hc
   ·simp at h
end Go.Proofs.YtmoklbacdkmkaaaGreatDoor
namespace Go.Pl
open Go Go.Proofs Go.Proofs.YtmoklbacdkmkaaaGreatDoor
def OutG (out:List qp) (m:Nat):Prop:=∀ x∈out,(∀ f∈x.fields,jw f)∧x.fields.length≤m∧-9223372036854775808≤x.id∧x.id≤9223372036854775807
theorem OutG.mono {out:List qp} {m m':Nat} (h:OutG out m) (hm:m≤m'):OutG out m':=fun x hx=>⟨(h x hx).1,by have:=(h x hx).2.1;omega,(h x hx).2.2⟩
end Go.Pl
namespace Go.Pl
open Go Go.Proofs
def vv:List (Bytes×Bool)→List Bytes
 | []=>[]
 |(t,_)::r=>if qy t=3 then t::vv r else []
def xc (prev:Bool) (t:Bytes) (e:Bool) (r:List (Bytes×Bool)) (fields:Nat) (records:Int):Int:=
 if qy t=5∨(qy t=3∧prev=false)∨e=false then 2
 else if qy t≠4 then 0
 else if (jm (t::vv r)).2≠0 then (jm (t::vv r)).2
 else if 40≤fields∨(fields=0∧400≤records) then 11 else 0
theorem qx6 {α : Type} {l:List α} {x : α} (h:l.getLast? = some x):l.dropLast++[x]=l:=by
 have hne:l≠[]:=fun e=>by subst e;simp at h
 rw [List.getLast?_eq_some_getLast hne] at h
 obtain rfl:=Option.some.inj h
 exact List.dropLast_concat_getLast hne
def outR (now:j6) (out:List j6):List j6:=if now.raw=[] then out else out++[now]
def refL:Nat→List (Bytes×Bool)→Bool→j6→Int→List j6→Option (Int×Int)×List j6
 | _,[],_,now,_,out=>(none,outR now out)
 |i,(t,e)::r,prev,now,rec,out=>
  if xc prev t e r now.fields.length rec≠0 then (some ((i:Int),xc prev t e r now.fields.length rec),[])
  else if qy t=1 then refL (i+1) r false ⟨2,[],[]⟩ rec (outR now out++[⟨1,t++[10],[]⟩])
  else if qy t=4 then refL (i+1) r true ⟨3,now.raw++t++[10],now.fields++[(jm (t::vv r)).1]⟩ (if now.kind=2 then rec+1 else rec) out
  else refL (i+1) r (decide (qy t=3)) ⟨now.kind,now.raw++t++[10],now.fields⟩ rec out
def qtq:List (Bytes×Bool)→Prop
 | []=>True
 |(_,e)::r=>(e=false→r=[])∧qtq r
theorem qnb:∀ (n:Nat) (l:Bytes),l.length≤n→qtq (zr l)
 | 0,l,h=>by
  have:l=[]:=List.length_eq_zero_iff.1 (by omega)
  subst this
  rw [wg]
  trivial
 |n+1,l,h=>by
  by_cases hl:l=[]
  ·subst hl
   rw [wg]
   trivial
  ·rw [we hl]
   refine⟨fun he=>?_,qnb n _ (by have:=xa (c:=10) hl;omega)⟩
   have h10:10∉l:=by simpa using he
   have:past 10 l=[]:=by
    unfold past
    rw [qeg h10]
    exact List.drop_eq_nil_of_le (by omega)
   rw [this,wg]
def qd1 (ls:List Bytes) (full:Bool):Int:=if (jm ls).2≠0 then (jm ls).2 else if full=true then 11 else 0
theorem qg0 {p:PSt} (h:p.lines≠[]) (hc:qd1 p.lines p.full≠0):(jl p).1=some (p.frm,qd1 p.lines p.full):=by
 unfold qd1 at *
 unfold jl
 rw [if_neg h]
 by_cases h1:(jm p.lines).2≠0
 ·rw [if_pos h1,if_pos h1]
 ·rw [if_neg h1] at hc ⊢
  rw [if_neg h1]
  by_cases h2:p.full=true
  ·rw [if_pos h2,if_pos h2]
  ·rw [if_neg h2] at hc
   exact absurd rfl hc
theorem qr0 {p:PSt} (h:p.lines=[]∨qd1 p.lines p.full=0):jl p=(none,{ p with lines:=[],fields:=p.fields++(if p.lines=[] then [] else [(jm p.lines).1]) }):=by
 unfold jl
 by_cases h0:p.lines=[]
 ·rw [if_pos h0,if_pos h0]
  obtain⟨a,b,c,d,e,f,g⟩:=p
  simp only at h0
  subst h0
  simp
 ·rw [if_neg h0,if_neg h0]
  have h:=h.resolve_left h0
  unfold qd1 at h
  by_cases h1:(jm p.lines).2≠0
  ·rw [if_pos h1] at h
   exact absurd h h1
  ·rw [if_neg h1] at h ⊢
   by_cases h2:p.full=true
   ·rw [if_pos h2] at h
    simp at h
   ·rw [if_neg h2]
theorem qn5 {p:PSt} {no:Int} {t:Bytes} {e:Bool} {x:Int×Int} (h:(je p no t e (qy t)).1=some x):(wb p no t e).1=some x:=by
 unfold wb
 rw [h]
theorem qnt {p q:PSt} {no:Int} {t:Bytes} {e:Bool} (h:je p no t e (qy t)=(none,q)) (hc:qy t=5∨e=false):(wb p no t e).1=some (no,2):=by
 unfold wb
 rw [h]
 simp only
 rw [if_pos hc]
theorem qj4 {p q:PSt} {no:Int} {t:Bytes} (h:je p no t true (qy t)=(none,q)) (hc:qy t≠5):wb p no t true =
  if qy t=1 then (none,{ q with items:=q.items++[⟨1,t++[10],[]⟩] }) else if qy t=4 then (none,{ j7 q no t with block:=q.block++[t] }) else (none,{ q with block:=q.block++[t] }):=by
 unfold wb
 rw [h]
 simp only
 rw [if_neg (by simp [hc])]
theorem qeo {k:Nat} {t:Bytes} {e:Bool} {r:List (Bytes×Bool)} {p:PSt} {x:Int×Int} (h:(wb p k t e).1=some x):(runL k ((t,e)::r) p).1=some x:=by
 rw [runL,h]
theorem qgi {k:Nat} {t:Bytes} {e:Bool} {r:List (Bytes×Bool)} {p q:PSt} (h:wb p k t e=(none,q)):runL k ((t,e)::r) p=runL (k+1) r q:=by
 rw [runL,h]
theorem qo2 {p:PSt} {no:Int} {t:Bytes} (hk:qy t=3) (hl:p.lines≠[]):je p no t true (qy t)=(none,{ p with lines:=p.lines++[t] }):=by
 unfold je
 rw [if_pos hk,if_neg hl,if_pos rfl]
theorem qpe {p:PSt} {no:Int} {t:Bytes} (hk:qy t=3) (hl:p.lines≠[]):je p no t false (qy t)=jl { p with lines:=p.lines++[t] }:=by
 unfold je
 rw [if_pos hk,if_neg hl,if_neg (by simp)]
theorem qf3 {p:PSt} {no:Int} {t:Bytes} {e:Bool} (hk:qy t≠3) (h1:qy t≠1):je p no t e (qy t)=jl p:=by
 unfold je
 rw [if_neg hk,if_neg h1]
theorem qjc {p:PSt} {no:Int} {t:Bytes} {e:Bool} (h1:qy t=1):je p no t e (qy t)=endP p:=by
 unfold je
 rw [if_neg (by omega),if_pos h1]
theorem qpn {t:Bytes} {e:Bool} {r:List (Bytes×Bool)} (h:qy t≠3):vv ((t,e)::r)=[]:=by
 rw [vv,if_neg h]
theorem qja {t:Bytes} {e:Bool} {r:List (Bytes×Bool)} (h:qy t=3):vv ((t,e)::r)=t::vv r:=by
 rw [vv,if_pos h]
theorem qul {p:PSt} {x:Int×Int} (h:(jl p).1=some x):(endP p).1=some x:=by
 unfold endP
 rw [h]
theorem qrg {p q:PSt} (h:jl p=(none,q)):endP p=(none,xz q):=by
 unfold endP
 rw [h]
theorem quf:∀ (r:List (Bytes×Bool)) (p:PSt) (k:Nat) (c:Int),qtq r→p.lines≠[]→qd1 (p.lines++vv r) p.full=c→c≠0→(runL k r p).1=some (p.frm,c)
 | [],p,k,c,_,hl,hc,h0=>by
  rw [vv,List.append_nil] at hc
  rw [runL]
  subst hc
  exact qul (qg0 hl h0)
 |(t,e)::r,p,k,c,hE,hl,hc,h0=>by
  by_cases h3:qy t=3
  ·rw [qja h3] at hc
   cases e with
   |true=>
    have ht:=qj4 (qo2 (no:=k) h3 hl) (by omega)
    rw [if_neg (by omega),if_neg (by omega)] at ht
    rw [qgi ht]
    exact quf r _ (k+1) c hE.2 (by simp) (by simpa using hc) h0
   |false=>
    have hr:=hE.1 rfl
    subst hr
    refine qeo (qn5 ?_)
    rw [qpe h3 hl]
    have hc':qd1 (p.lines++[t]) p.full=c:=hc
    have:=qg0 (p:={ p with lines:=p.lines++[t] }) (by simp) (by simp only;rw [hc'];exact h0)
    simp only at this
    rw [this,hc']
  ·rw [qpn h3,List.append_nil] at hc
   subst hc
   refine qeo (qn5 ?_)
   by_cases h1:qy t=1
   ·rw [qjc h1]
    exact qul (qg0 hl h0)
   ·rw [qf3 h3 h1]
    exact qg0 hl h0
structure Sim (r:List (Bytes×Bool)) (p:PSt) (prev:Bool) (now:j6) (rec:Int) (out:List j6):Prop where
 hprev:prev=decide (p.lines≠[])
 hok:p.lines=[]∨qd1 (p.lines++vv r) p.full=0
 hraw:now.raw=zj p.block
 hfields:now.fields=p.fields++(if p.lines=[] then [] else [(jm (p.lines++vv r)).1])
 hkind:now.kind=if now.fields=[] then 2 else 3
 hrec:rec=p.records+if now.fields=[] then 0 else 1
 hout:out=p.items
 hempty:p.block=[]→p.lines=[]∧p.fields=[]
 b1:now.fields.length≤40
 b2:rec≤400
theorem q3q (b:List Bytes):zj b=[]↔b=[]:=by
 cases b with
 |nil=>simp [zj]
 |cons x r=>simp [zj]
theorem qk4 (b:List Bytes) (t:Bytes):zj (b++[t])=zj b++t++[10]:=by simp [zj]
theorem Sim.flush {r:List (Bytes×Bool)} {p:PSt} {prev:Bool} {now:j6} {rec:Int} {out:List j6} (h:Sim r p prev now rec out) (hm:vv r=[]):jl p=(none,{ p with lines:=[],fields:=now.fields }):=by
 have h1:=h.hok
 have h2:=h.hfields
 rw [hm,List.append_nil] at h1 h2
 rw [qr0 h1,h2]
theorem Sim.close {r:List (Bytes×Bool)} {p:PSt} {prev:Bool} {now:j6} {rec:Int} {out:List j6} (h:Sim r p prev now rec out) (hm:vv r=[]):xz { p with lines:=[],fields:=now.fields }={ p with lines:=[],fields:=[],block:=[],items:=outR now out,records:=rec }:=by
 have hk:=h.hkind
 have hr:=h.hrec
 have hw:=h.hraw
 have ho:=h.hout
 unfold xz outR
 simp only
 by_cases hb:p.block=[]
 ·obtain⟨e1,e2⟩:=h.hempty hb
  have hf:now.fields=[]:=by rw [h.hfields,e1,e2];simp
  rw [if_pos hb,if_pos (by rw [hw,hb];rfl),ho,hr,hf]
  simp
 ·have hne:¬ now.raw=[]:=by rw [hw,q3q];exact hb
  rw [if_neg hb,if_neg hne,ho,hr,← hw]
  obtain⟨nk,nr,nf⟩:=now
  simp only at hk hne ⊢
  by_cases hf:nf=[]
  ·rw [if_pos hf] at hk
   simp [hf,hk,hne]
  ·rw [if_neg hf] at hk
   simp [hf,hk,hne]
theorem qj1:∀ (r:List (Bytes×Bool)) (k:Nat) (p:PSt) (prev:Bool) (now:j6) (rec:Int) (out:List j6),qtq r→Sim r p prev now rec out →
  refL k r prev now rec out=match (runL k r p).1 with
   |some e=>(some e,[])
   |none=>(none,(runL k r p).2.items)
 | [],k,p,prev,now,rec,out,_,h=>by
  rw [runL,qrg (h.flush rfl),h.close rfl,refL]
 |(t,e)::r,k,p,prev,now,rec,out,hE,h=>by
  rw [refL]
  by_cases h3:qy t=3
  ·by_cases hl:p.lines=[]
   ·have hp:prev=false:=by rw [h.hprev];simp [hl]
    have hw:xc prev t e r now.fields.length rec=2:=by
     unfold xc
     rw [if_pos (.inr (.inl ⟨h3,hp⟩))]
    rw [hw,if_pos (by decide),qeo (x:=((k:Int),2)) (qn5 (by unfold je;rw [if_pos h3,if_pos hl]))]
   ·cases e with
    |true=>
     have hp:prev=true:=by rw [h.hprev];simp [hl]
     have hw:xc prev t true r now.fields.length rec=0:=by
      unfold xc
      rw [if_neg (by simp [hp];omega),if_pos (by omega)]
     have ht:=qj4 (qo2 (no:=k) h3 hl) (by omega)
     rw [if_neg (by omega),if_neg (by omega)] at ht
     rw [hw,if_neg (by simp),if_neg (by omega),if_neg (by omega),qgi ht]
     have hm:=qja (e:=true) (r:=r) h3
     have hok:=h.hok.resolve_left hl
     have hfs:=h.hfields
     rw [if_neg hl,hm] at hfs
     rw [hm] at hok
     refine qj1 r (k+1) _ _ _ _ _ hE.2 ⟨by simp [h3],.inr (by simpa using hok),by rw [qk4,← h.hraw],by simp [hfs],h.hkind,h.hrec,h.hout,by simp,h.b1,h.b2⟩
    |false=>
     have hr:=hE.1 rfl
     subst hr
     have hw:xc prev t false [] now.fields.length rec=2:=by
      unfold xc
      rw [if_pos (.inr (.inr rfl))]
     have hok:=h.hok.resolve_left hl
     rw [qja h3] at hok
     have hf:=qr0 (p:={ p with lines:=p.lines++[t] }) (.inr hok)
     rw [hw,if_pos (by decide),qeo (x:=((k:Int),2)) (qnt ((qpe h3 hl).trans hf) (.inr rfl))]
  ·have hm:=qpn (e:=e) (r:=r) h3
   have hf:=h.flush hm
   have hc:=h.close hm
   by_cases hbad:qy t=5∨e=false
   ·have hw:xc prev t e r now.fields.length rec=2:=by
     unfold xc
     rw [if_pos (by rcases hbad with h|h;exact .inl h;exact .inr (.inr h))]
    rw [hw,if_pos (by decide)]
    by_cases h1:qy t=1
    ·rw [qeo (x:=((k:Int),2)) (qnt ((qjc h1).trans (qrg hf)) hbad)]
    ·rw [qeo (x:=((k:Int),2)) (qnt ((qf3 h3 h1).trans hf) hbad)]
   ·have he:e=true:=by
     cases e with
     |true=>rfl
     |false=>exact absurd (.inr rfl) hbad
    have h5:qy t≠5:=fun h=>hbad (.inl h)
    subst he
    by_cases h1:qy t=1
    ·have hw:xc prev t true r now.fields.length rec=0:=by
      unfold xc
      rw [if_neg (by simp [h3,h5]),if_pos (by omega)]
     have ht:=qj4 ((qjc (no:=k) h1).trans (qrg hf)) h5
     rw [if_pos h1,hc] at ht
     rw [hw,if_neg (by simp),if_pos h1,qgi ht]
     exact qj1 r (k+1) _ _ _ _ _ hE.2 ⟨by simp,.inl rfl,rfl,by simp,by simp,by simp,rfl,by simp,by simp,h.b2⟩
    ·by_cases h4:qy t=4
     ·have ht:=qj4 ((qf3 (no:=k) h3 h1).trans hf) h5
      rw [if_neg h1,if_pos h4] at ht
      rw [qgi ht]
      have hb1:=h.b1
      have hb2:=h.b2
      have hrec:=h.hrec
      have hfull:(40≤now.fields.length∨(now.fields.length=0∧400≤rec))↔(now.fields.length=40∨(now.fields.length=0∧p.records=400)):=by
       by_cases hz:now.fields=[]
       ·rw [if_pos hz] at hrec
        simp only [hz,List.length_nil]
        constructor
        ·rintro (h'|h')
         ·exact absurd h' (by decide)
         ·exact .inr ⟨trivial,by omega⟩
        ·rintro (h'|h')
         ·exact absurd h' (by decide)
         ·exact .inr ⟨trivial,by omega⟩
       ·have:now.fields.length≠0:=fun h=>hz (List.length_eq_zero_iff.1 h)
        constructor
        ·rintro (h'|h')
         ·exact .inl (by omega)
         ·exact absurd h'.1 this
        ·rintro (h'|h')
         ·exact .inl (by omega)
         ·exact absurd h'.1 this
      have hw:xc prev t true r now.fields.length rec=qd1 (t::vv r) (decide (now.fields.length=40∨(now.fields.length=0∧p.records=400))):=by
       unfold xc qd1
       rw [if_neg (by simp [h3,h5]),if_neg (by omega)]
       by_cases hu:(jm (t::vv r)).2≠0
       ·rw [if_pos hu,if_pos hu]
       ·rw [if_neg hu,if_neg hu]
        by_cases hx:40≤now.fields.length∨(now.fields.length=0∧400≤rec)
        ·rw [if_pos hx,if_pos (decide_eq_true (hfull.1 hx))]
        ·rw [if_neg hx,if_neg (by simpa using fun h=>hx (hfull.2 h))]
      by_cases hw0:xc prev t true r now.fields.length rec=0
      ·rw [if_neg (by simp [hw0]),if_neg h1,if_pos h4]
       have hx:¬ (40≤now.fields.length∨(now.fields.length=0∧400≤rec)):=fun hx=>by
        unfold xc at hw0
        rw [if_neg (by simp [h3,h5]),if_neg (by omega)] at hw0
        by_cases hu:(jm (t::vv r)).2≠0
        ·rw [if_pos hu] at hw0;exact hu hw0
        ·rw [if_neg hu,if_pos hx] at hw0;simp at hw0
       rw [hw] at hw0
       refine qj1 r (k+1) _ _ _ _ _ hE.2 ⟨by simp [j7],.inr hw0,by simp only [j7];rw [qk4,← h.hraw],by simp [j7],by simp,?_,h.hout,by simp [j7],by simp;omega,?_⟩
       ·have hkd:=h.hkind
        simp only [j7]
        by_cases hz:now.fields=[]
        ·rw [if_pos hz] at hrec hkd
         rw [hkd]
         simp
         omega
        ·rw [if_neg hz] at hrec hkd
         rw [hkd]
         simp
         omega
       ·rw [h.hkind]
        by_cases hz:now.fields=[]
        ·have:now.fields.length=0:=by rw [hz];rfl
         rw [if_pos hz,if_pos rfl]
         omega
        ·rw [if_neg hz,if_neg (by decide)]
         exact hb2
      ·rw [if_pos hw0]
       have:=quf r { j7 { p with lines:=[],fields:=now.fields } k t with block:=p.block++[t] } (k+1) (xc prev t true r now.fields.length rec) hE.2 (by simp [j7]) hw.symm hw0
       simp only [j7] at this ⊢
       rw [this]
     ·have hw:xc prev t true r now.fields.length rec=0:=by
       unfold xc
       rw [if_neg (by simp [h3,h5]),if_pos h4]
      have ht:=qj4 ((qf3 (no:=k) h3 h1).trans hf) h5
      rw [if_neg h1,if_neg h4] at ht
      rw [hw,if_neg (by simp),if_neg h1,if_neg h4,qgi ht]
      exact qj1 r (k+1) _ _ _ _ _ hE.2 ⟨by simp [h3],.inl rfl,by rw [qk4,← h.hraw],by simp,h.hkind,h.hrec,h.hout,by simp,h.b1,h.b2⟩
theorem qxc (text:Bytes):refL 0 (zr text) false ⟨2,[],[]⟩ 0 []=j8 text:=by
 unfold j8
 exact qj1 (zr text) 0 p0 false ⟨2,[],[]⟩ 0 [] (qnb _ text (Nat.le_refl _)) ⟨by simp [p0],.inl rfl,rfl,by simp [p0],by simp,by simp [p0],rfl,by simp [p0],by simp,by omega⟩
end Go.Pl
namespace Go.Pl
open Go Go.Proofs Go.Proofs.YtmoklbacdkmkaaaGreatDoor
theorem qhg {l b:Bytes} {n:Int} (h:q9 l=(1,b,n)):xh b∧∃ m,l=recF b++m∧n=(recF b).length:=by
 unfold q9 at h
 split at h
 ·rename_i h10
  split at h
  ·rename_i ho
   generalize hr:past 10 l=r at *
   have hl:=y9 h10
   rw [hr] at hl
   generalize hu:upto 10 l=u at *
   have hop:u=zy (zz u).1 (zz u).2.1∧2≤(zz u).1∧(zz u).1≤50000:=by
    simp only [zz,decide_eq_true_eq] at ho ⊢
    obtain⟨o1,o2,o3,o4,o5⟩:=ho
    refine⟨?_,o3,qb0 _⟩
    obtain⟨t,rfl⟩:=o1
    rw [qkv] at *
    have:=qfy rfl (Nat.le_trans (by decide) o3)
    unfold zy
    rw [← this,← y9 o2]
   generalize (zz u).1=n at *
   generalize (zz u).2.1=fig at *
   obtain⟨rfl,h2,hn⟩:=hop
   split at h
   ·unfold qdf at h
    split at h <;> simp at h
   ·rename_i hge
    split at h
    ·rename_i hg
     have hlen:(r.take n).length=n:=by simp;omega
     unfold qad at h
     rw [hlen] at h
     split at h
     ·simp at h
     ·split at h
      ·rename_i hc
       obtain⟨⟨m,hm⟩,hs⟩:=hc
       simp only [Prod.mk.injEq,true_and] at h
       obtain⟨rfl,rfl⟩:=h
       refine⟨hg,m,?_,?_⟩
       ·rw [qeu,hlen,← hs,hl]
        unfold recL
        conv=>lhs;rw [← List.take_append_drop n r,← hm]
        simp
       ·rw [qmw _ hg,hlen]
      ·simp at h
    ·simp at h
  ·simp at h
 ·split at h <;> simp at h
theorem qq5 (s sub:Bytes) (i:Nat):Lib.occAt s sub i=true↔sub <+: s.drop i:=by
 unfold Lib.occAt
 rw [List.isPrefixOf_iff_prefix]
theorem zag {a:Bytes} (r:Bytes) (h:10∉a):Lib.cut (a++10::10::r) [10,10]=(a,r,true):=by
 have hi:Lib.index (a++10::10::r) [10,10]=(a.length:Int):=by
  refine Lib.index_first (by simp) ?_ fun j hj=>?_
  ·rw [qq5,List.drop_left]
   exact⟨r,rfl⟩
  ·cases hb:Lib.occAt (a++10::10::r) [10,10] j with
   |false=>rfl
   |true=>
    obtain⟨t,ht⟩:=(qq5 _ _ _).1 hb
    rw [List.drop_append_of_le_length (by omega)] at ht
    have:a.drop j≠[]:=by
     intro e
     have:=congrArg List.length e
     simp at this
     omega
    obtain⟨c,q,hq⟩:=List.exists_cons_of_ne_nil this
    rw [hq] at ht
    have h10:c=10:=by simpa using (List.cons.inj ht).1.symm
    exact absurd (List.mem_of_mem_drop (by rw [hq,h10];simp:(10:UInt8)∈a.drop j)) h
 unfold Lib.cut
 rw [hi,if_pos (by omega)]
 simp only [Int.toNat_natCast,List.take_left',List.length_cons,List.length_nil]
 rw [show a.length+(0+1+1)=(a++[10,10]).length by simp,show a++10::10::r=(a++[10,10])++r by simp,List.drop_left]
theorem q49 {l m:Bytes} (h:(Lib.cut l m).2.2=true):l=(Lib.cut l m).1++m++(Lib.cut l m).2.1:=by
 rcases Lib.index_spec l m with⟨h1,_⟩ | ⟨i,h1,h2,h3,_⟩
 ·unfold Lib.cut at h
  rw [h1,if_neg (by omega)] at h
  simp at h
 ·unfold Lib.cut
  rw [h1,if_pos (by omega)]
  simp only [Int.toNat_natCast]
  obtain⟨t,ht⟩:=(qq5 _ _ _).1 h3
  have e:l.drop (i+m.length)=t:=by rw [← List.drop_drop,← ht,List.drop_left]
  rw [e,List.append_assoc,ht,List.take_append_drop]
def genL:Bytes:=[35,37,103,101,110,32]
def xg (n:Int):Bytes:=genL++Lib.itoa n++[10,10]
def qaj (n:Int):Prop:=1≤n∧n≤2147483648
instance (n:Int):Decidable (qaj n):=inferInstanceAs (Decidable (_∧_))
def vf (text:Bytes):Int×Bytes:=
 if genL <+: text then
  match numZ (upto 10 (text.drop 6)) with
  |some n=>if qaj n∧[10,10] <+: text.drop (6+(upto 10 (text.drop 6)).length) then (n,text.drop (8+(upto 10 (text.drop 6)).length)) else (0,text)
  |none=>(0,text)
 else (0,text)
theorem qkc (v:Int):(10:UInt8)∉Lib.itoa v:=by
 intro h
 by_cases hv:v<0
 ·rw [qhn hv] at h
  rcases List.mem_cons.1 h with h|h
  ·simp at h
  ·have:=wo _ _ (Nat.le_refl _) _ h
   simp at this
 ·rw [qh3 (by omega)] at h
  have:=wo _ _ (Nat.le_refl _) _ h
  simp at this
theorem qkp (n:Int) (r:Bytes):xg n++r=genL++(Lib.itoa n++10::10::r):=by simp [xg]
theorem qgw {n:Int} (h:qaj n) (r:Bytes):vf (xg n++r)=(n,r):=by
 unfold vf
 have hd:(genL++(Lib.itoa n++10::10::r)).drop 6=Lib.itoa n++10::10::r:=by rw [show (6:Nat)=genL.length by rfl,List.drop_left]
 rw [qkp,if_pos (List.prefix_append _ _),hd,w9 _ (qkc n),q1x (by have:=h.1;omega) (by have:=h.2;omega)]
 have e1:(genL++(Lib.itoa n++10::10::r)).drop (6+(Lib.itoa n).length)=10::10::r:=by rw [← List.drop_drop,hd,List.drop_left]
 have e2:(genL++(Lib.itoa n++10::10::r)).drop (8+(Lib.itoa n).length)=r:=by
  rw [show 8+(Lib.itoa n).length=(6+(Lib.itoa n).length)+2 by omega,← List.drop_drop,e1]
  rfl
 simp only
 rw [e1,e2,if_pos ⟨h,r,rfl⟩]
theorem qru {text:Bytes} (h:∀ n r,qaj n→text≠xg n++r):vf text=(0,text):=by
 unfold vf
 split
 ·rename_i hp
  obtain⟨t,rfl⟩:=hp
  have hd:(genL++t).drop 6=t:=by rw [show (6:Nat)=genL.length by rfl,List.drop_left]
  rw [hd]
  split
  ·rename_i n hn
   split
   ·rename_i hc
    obtain⟨hg,r,hr⟩:=hc
    rw [← List.drop_drop,hd] at hr
    obtain⟨he,_⟩:=q4m hn
    refine absurd ?_ (h n r hg)
    rw [qkp,← he]
    congr 1
    conv=>lhs;rw [← List.take_append_drop (upto 10 t).length t,qil,← hr]
    rfl
   ·rfl
  ·rfl
 ·rfl
theorem qm0 (text:Bytes):(∃ n r,qaj n∧text=xg n++r∧vf text=(n,r))∨((∀ n r,qaj n→text≠xg n++r)∧vf text=(0,text)):=by
 by_cases h:∃ n r,qaj n∧text=xg n++r
 ·obtain⟨n,r,hg,rfl⟩:=h
  exact .inl ⟨n,r,hg,rfl,qgw hg r⟩
 ·have h':∀ n r,qaj n→text≠xg n++r:=fun n r hg e=>h ⟨n,r,hg,e⟩
  exact .inr ⟨h',qru h'⟩
def j5 (n:Int):Bytes:=if qaj n then xg n else []
theorem qdr (text:Bytes):text=j5 (vf text).1++(vf text).2∧((vf text).1=0∨qaj (vf text).1):=by
 rcases qm0 text with⟨n,r,hg,he,ht⟩ | ⟨_,ht⟩
 ·rw [ht]
  simp only
  unfold j5
  rw [if_pos hg]
  exact⟨he,.inr hg⟩
 ·rw [ht]
  exact⟨rfl,.inl rfl⟩
theorem qsf {n:Int} (h:qaj n):(xg n).length≤28:=by
 have:=qlp (v:=n) (by have:=h.1;omega) (by have:=h.2;omega)
 simp [xg,genL]
 omega
def begF (l:Bytes):Bool:=decide (l.head? = some 37∧qy l=5)
def jg (n:Nat) (l:Bytes):Nat:=if h:l=[] then n else if begF (upto 10 l)=true then n - l.length else jg n (past 10 l)
 termination_by l.length
 decreasing_by exact xa h
theorem qa6 (n:Nat):jg n []=n:=by rw [jg,dif_pos rfl]
theorem qfb {n:Nat} {l:Bytes} (h:l≠[]) (hb:begF (upto 10 l)=true):jg n l=n - l.length:=by rw [jg,dif_neg h,if_pos hb]
theorem qge {n:Nat} {l:Bytes} (h:l≠[]) (hb:¬ begF (upto 10 l)=true):jg n l=jg n (past 10 l):=by
 conv=>lhs;rw [jg]
 rw [dif_neg h,if_neg hb]
theorem qmc:∀ (k n:Nat) (l:Bytes),l.length≤k→l.length≤n→n - l.length≤jg n l∧jg n l≤n
 | 0,n,l,h,hn=>by
  have:l=[]:=List.length_eq_zero_iff.1 (by omega)
  subst this
  rw [qa6]
  simp
 |k+1,n,l,h,hn=>by
  by_cases hl:l=[]
  ·subst hl;rw [qa6];simp
  ·by_cases hb:begF (upto 10 l)=true
   ·rw [qfb hl hb]
    omega
   ·have:=xa (c:=10) hl
    rw [qge hl hb]
    have:=qmc k n (past 10 l) (by omega) (by omega)
    omega
theorem qpw:∀ (k n:Nat) (l x:Bytes),l.length≤k→(∀ p∈zr l,begF p.1=false∧p.2=true)→jg n (l++x)=jg n x
 | 0,n,l,x,h,_=>by
  have:l=[]:=List.length_eq_zero_iff.1 (by omega)
  subst this
  rfl
 |k+1,n,l,x,h,hp=>by
  by_cases hl:l=[]
  ·subst hl;rfl
  ·rw [we hl] at hp
   obtain⟨h1,h2⟩:=hp _ (List.mem_cons_self ..)
   have h10:10∈l:=by simpa using h2
   have e:=y9 h10
   have hu:upto 10 (l++x)=upto 10 l∧past 10 (l++x)=past 10 l++x:=by
    have e2:l++x=upto 10 l++10::(past 10 l++x):=by
     conv=>lhs;rw [e]
     simp
    rw [e2,w9 _ (qde 10 l),yr _ (qde 10 l)]
    exact⟨rfl,rfl⟩
   rw [qge (by simp [hl]) (by rw [hu.1];simp [h1]),hu.2]
   exact qpw k n _ x (by have:=xa (c:=10) hl;omega) fun p hp'=>hp p (by simp [hp'])
theorem qha:∀ (r:List (Bytes×Bool)) (k:Nat) (prev:Bool) (now:j6) (rec:Int) (out:List j6),(refL k r prev now rec out).1=none→∀ x∈r,qy x.1≠5∧x.2=true
 | [],_,_,_,_,_,_=>by simp
 |(t,e)::r,k,prev,now,rec,out,h=>by
  rw [refL] at h
  split at h
  ·simp at h
  ·rename_i hw
   have hx:qy t≠5∧e=true:=by
    unfold xc at hw
    split at hw
    ·simp at hw
    ·rename_i hc
     exact⟨fun h5=>hc (.inl h5),by cases e with|true=>rfl|false=>exact absurd (.inr (.inr rfl)) hc⟩
   have hr:∀ x∈r,qy x.1≠5∧x.2=true:=by
    split at h
    ·exact qha r _ _ _ _ _ h
    ·split at h
     ·exact qha r _ _ _ _ _ h
     ·exact qha r _ _ _ _ _ h
   intro x hx'
   rcases List.mem_cons.1 hx' with rfl|hx'
   ·exact hx
   ·exact hr x hx'
theorem qx7 {text:Bytes} (h:(j8 text).1=none):∀ x∈zr text,begF x.1=false∧x.2=true:=fun x hx=>by
 rw [← qxc] at h
 obtain⟨h1,h2⟩:=qha _ _ _ _ _ _ h x hx
 exact⟨by simp [begF,h1],h2⟩
theorem qf9 {n:Nat} {fig l:Bytes} (hf:xy fig) (h:l <+: zy n fig) (hne:l≠[]):begF l=true:=by
 have h10:10∉l:=qq6 h (qax n hf)
 have h58:(58:UInt8)∉l:=qq6 h fun h'=>by
  unfold zy at h'
  rcases List.mem_append.1 h' with h'|h'
  ·revert h';decide
  ·rcases List.mem_append.1 h' with h'|h'
   ·exact qg2 n (by decide) h'
   ·rcases List.mem_cons.1 h' with h'|h'
    ·simp at h'
    ·exact qlz hf (by decide) h'
 obtain⟨c,q,rfl⟩:=List.exists_cons_of_ne_nil hne
 have hc:c=37:=by
  obtain⟨t,ht⟩:=h
  unfold zy zw at ht
  exact (List.cons.inj ht).1
 subst hc
 have hk:=qxo h10 (fun hb=>by
  have:=hb 37 (by simp)
  revert this
  decide)
 simp only [begF,List.head?_cons,true_and,decide_eq_true_eq]
 rw [hk.2]
 rw [if_neg (by simp),if_neg (by simp [xf]),if_neg (fun h=>h58 h.1)]
theorem q4b {n:Nat} {fig body l:Bytes} (hf:xy fig) (h:l <+: recL n fig body) (hne:l≠[]):begF (upto 10 l)=true:=by
 rcases qr8 (show l <+: zy n fig++10::(body++yx n) from h) with h | ⟨r,rfl,hr⟩
 ·rw [qeg (qq6 h (qax n hf))]
  exact qf9 hf h hne
 ·cases r with
  |nil=>
   rw [List.append_nil,qeg (qax n hf)]
   exact qf9 hf (List.prefix_refl _) (by simp [zy,zw])
  |cons c r=>
   have:c=10:=by obtain⟨t,ht⟩:=hr;exact (List.cons.inj ht).1
   subst this
   rw [w9 _ (qax n hf)]
   exact qf9 hf (List.prefix_refl _) (by simp [zy,zw])
theorem qyj {b:Bytes} (x:Bytes) (hg:xh b):begF (upto 10 (recF b++x))=true:=by
 rw [qeu]
 have hx:xy (sumF b):=qi9 (addP 0 b)
 unfold recL
 rw [List.append_assoc,List.cons_append,w9 _ (qax _ hx)]
 exact qf9 hx (List.prefix_refl _) (by simp [zy,zw])
end Go.Pl
namespace Go.Av
open Go Go.RowKit
section
variable {E : Env} {rd : Option Nat} {N : Nat} {ops : Array Oper} {K K' : AS → Prop} {s : AS}
theorem AOps.mono {l:List Oper} (h:AOps E rd N ops l K' s) (hk:∀ s,K' s→K s):AOps E rd N ops l K s:=
 ⟨fun B0 w0 G a w hL hI Q hQ=>h.run B0 w0 G a w hL hI Q fun G' s' a' w' hG hI' hK=>hQ G' s' a' w' hG hI' (hk _ hK)⟩
end
end Go.Av
namespace Go.Pl
open Go Go.Proofs Go.Proofs.YtmoklbacdkmkaaaGreatDoor
structure vr where
 gen:Int
 base:Bytes
 batches:List (List qp)
 ends : List Int
 tail:Bytes
def qe9:vr:=⟨0,[],[],[],[]⟩
def xx (text:Bytes):ErrV:=if 60000<text.length then .num 1 else match (j8 text).1 with
 |none=>.no
 |some (a,n)=>.at' a n
def recsF:Nat→Bytes→Int→List (List qp)→List Int→Bool×List (List qp)×List Int×Bytes
 | 0,l,_,bs,es=>(false,bs,es,l)
 |f+1,l,a,bs,es=>
  if (q9 l).1=2 then (false,bs,es,l)
  else if (q9 l).1=1 then match decF (q9 l).2.1 with
   |some b=>recsF f (l.drop (q9 l).2.2.toNat) (a+(q9 l).2.2) (bs++[b]) (es++[a+(q9 l).2.2])
   |none=>(true,bs,es,l)
  else (true,bs,es,l)
def kg (text:Bytes):Bytes:=(vf text).2
def atH (text:Bytes):Nat:=jg (kg text).length (kg text)
def wc (text:Bytes):Bytes:=(kg text).take (atH text)
def qbg (text:Bytes):Bool×List (List qp)×List Int×Bytes:=recsF (text.length+1) ((kg text).drop (atH text)) (((text.length - (kg text).length+atH text:Nat)):Int) [] []
def jt (text:Bytes):ErrV×vr:=
 if 120000<text.length then (.num 1,qe9)
 else match xx (wc text) with
  | .no=>if (qbg text).1=true then (.at' (qbg text).2.1.length 10,qe9) else (.no,⟨(vf text).1,wc text,(qbg text).2.1,(qbg text).2.2.1,(qbg text).2.2.2⟩)
  |e=>(e,qe9)
structure qal (b:List qp):Prop where
 ok:eErr b = .no
 B:∀ x∈b,EdB x
 len:(encF b).length≤50000
theorem qal.dec {b:List qp} (h:qal b):decF (encF b)=some b:=q75 h.ok h.B h.len
theorem qal.good {b:List qp} (h:qal b):xh (encF b):=q4a h.ok h.B h.len
theorem qn3 {t:Bytes} {b:List qp} (h:decF t=some b):qal b∧encF b=t:=by
 obtain⟨h1,h2,h3⟩:=q5g h
 exact⟨⟨h1,q9g h,by rw [h2];exact h3⟩,h2⟩
def recE (b:List qp):Bytes:=recF (encF b)
def zo (bs:List (List qp)):Bytes:=bs.flatMap recE
def yn (a:Int):List (List qp)→List Int
 | []=>[]
 |b::r=>(a+(recE b).length)::yn (a+(recE b).length) r
theorem km (b:List qp) (r:List (List qp)):zo (b::r)=recE b++zo r:=rfl
theorem q0e (r:List (List qp)) (b:List qp):zo (r++[b])=zo r++recE b:=by simp [zo]
theorem qou:∀ (r:List (List qp)) (a:Int) (b:List qp),yn a (r++[b])=yn a r++[a+(zo r).length+(recE b).length]
 | [],a,b=>by simp [yn,zo]
 |x::r,a,b=>by
  rw [List.cons_append,yn,yn,qou r,km]
  simp
  omega
theorem qlj:∀ (r:List (List qp)) (a:Int),(yn a r).length=r.length
 | [],_=>rfl
 |x::r,a=>by rw [yn];simp [qlj r]
theorem qqk:∀ (r:List (List qp)) (a:Int),r≠[]→(yn a r).getLast? = some (a+(zo r).length)
 | [],_,h=>absurd rfl h
 | [x],a,_=>by simp [yn,zo]
 |x::y::r,a,_=>by
  have:=qqk (y::r) (a+(recE x).length) (by simp)
  rw [yn,List.getLast?_cons]
  rw [this,km x]
  simp
  omega
theorem qko (b:List qp):0<(recE b).length:=by
 unfold recE
 rw [qeu]
 simp [recL,zy,zw]
theorem qvs:∀ (bs:List (List qp)) (f:Nat) (t:Bytes) (a:Int) (xs:List (List qp)) (es:List Int),(∀ b∈bs,qal b)→(q9 t).1=2→bs.length<f →
  recsF f (zo bs++t) a xs es=(false,xs++bs,es++yn a bs,t)
 | [],f+1,t,a,xs,es,_,ht,_=>by
  rw [recsF]
  simp only [zo,List.flatMap_nil,List.nil_append,yn,List.append_nil]
  rw [if_pos ht]
 |b::r,f+1,t,a,xs,es,h,ht,hf=>by
  have hb:=h b (by simp)
  have hrd:q9 (zo (b::r)++t)=(1,encF b,((recE b).length:Int)):=by
   rw [km,List.append_assoc]
   exact qn4 _ hb.good
  have hdr:(zo (b::r)++t).drop (recE b).length=zo r++t:=by
   rw [km,List.append_assoc,List.drop_left]
  rw [recsF,hrd]
  simp only
  rw [if_neg (by decide),if_pos trivial,hb.dec]
  simp only [Int.toNat_natCast]
  rw [hdr,qvs r f t _ _ _ (fun x hx=>h x (by simp [hx])) ht (by simp at hf;omega)]
  simp [yn]
theorem qvl:∀ (f:Nat) (l:Bytes) (a:Int) (xs xs':List (List qp)) (es es':List Int) (t:Bytes),l.length<f→recsF f l a xs es=(false,xs',es',t) →
  ∃ bs,l=zo bs++t∧xs'=xs++bs∧es'=es++yn a bs∧(∀ b∈bs,qal b)∧(q9 t).1=2
 | 0,l,a,xs,xs',es,es',t,hl,h=>absurd hl (by omega)
 |f+1,l,a,xs,xs',es,es',t,hl,h=>by
  rw [recsF] at h
  split at h
  ·rename_i h2
   simp only [Prod.mk.injEq,true_and] at h
   obtain⟨rfl,rfl,rfl⟩:=h
   exact⟨[],by simp [zo],by simp,by simp [yn],by simp,h2⟩
  ·split at h
   ·rename_i h1
    split at h
    ·rename_i b hd
     obtain⟨hg,he⟩:=qn3 hd
     have hrd:q9 l=(1,(q9 l).2.1,(q9 l).2.2):=by rw [← h1]
     obtain⟨_,m,hm,hn⟩:=qhg hrd
     rw [← he] at hm hn
     have hm':l=recE b++m:=hm
     have hn':(q9 l).2.2=((recE b).length:Int):=hn
     have hpos:=qko b
     have hlen:l.length=(recE b).length+m.length:=by rw [hm'];simp
     have hdr:l.drop (recE b).length=m:=by
      conv=>lhs;rw [hm']
      rw [List.drop_left]
     rw [hn',Int.toNat_natCast,hdr] at h
     obtain⟨bs,e1,e2,e3,e4,e5⟩:=qvl f m _ _ _ _ _ _ (by omega) h
     refine⟨b::bs,?_,by rw [e2];simp,by rw [e3];simp [yn],?_,e5⟩
     ·rw [km,List.append_assoc,← e1]
      exact hm'
     ·intro x hx
      rcases List.mem_cons.1 hx with rfl|hx
      ·exact hg
      ·exact e4 x hx
    ·simp at h
   ·simp at h
structure xm (text:Bytes) (b:vr):Prop where
 txt:text=j5 b.gen++(b.base++(zo b.batches++b.tail))
 gen:vf text=(b.gen,b.base++(zo b.batches++b.tail))
 parse:xx b.base = .no
 good:∀ x∈b.batches,qal x
 tail:(q9 b.tail).1=2
 ends : b.ends = yn ((j5 b.gen).length + b.base.length) b.batches
 len:text.length≤120000
def BegP (x:Bytes):Prop:=x=[]∨begF (upto 10 x)=true
theorem q2w {t:Bytes} (h:(q9 t).1=2):BegP t:=by
 by_cases h0:t=[]
 ·exact .inl h0
 ·obtain⟨n,fig,body,R,hp,_⟩:=q77 h
  obtain⟨_,_,_,_,_,hx⟩:=R
  exact .inr (q4b hx hp h0)
theorem qsg {bs:List (List qp)} {t:Bytes} (hg:∀ b∈bs,qal b) (h:(q9 t).1=2):BegP (zo bs++t):=by
 cases bs with
 |nil=>exact q2w h
 |cons b r=>
  refine .inr ?_
  rw [km,List.append_assoc]
  exact qyj _ (hg b (by simp)).good
theorem qrw {x:Bytes} (h:BegP x):x=[]∨x.head? = some 37:=by
 rcases h with h|h
 ·exact .inl h
 ·simp only [begF,decide_eq_true_eq] at h
  cases x with
  |nil=>exact .inl rfl
  |cons c r=>
   refine .inr ?_
   have h1:=h.1
   unfold upto at h1
   by_cases hc:c=10
   ·subst hc;simp at h1
   ·simpa [hc] using h1
theorem qhu {l:Bytes} (h:xx l = .no):(∀ p∈zr l,begF p.1=false∧p.2=true)∧l.length≤60000:=by
 unfold xx at h
 split at h
 ·simp at h
 ·split at h
  ·rename_i hp
   exact⟨qx7 hp,by omega⟩
  ·simp at h
theorem qqd {l x:Bytes} (h:xx l = .no) (hx:BegP x):jg (l++x).length (l++x)=l.length:=by
 rw [qpw _ _ l x (Nat.le_refl _) (qhu h).1]
 rcases hx with rfl|hx
 ·rw [qa6];simp
 ·by_cases h0:x=[]
  ·subst h0;rw [qa6];simp
  ·rw [qfb h0 hx]
   simp
theorem qq3 {text:Bytes} {b:vr} (h:xm text b):jt text=(.no,b):=by
 have hr:kg text=b.base++(zo b.batches++b.tail):=by unfold kg;rw [h.gen]
 have ha:atH text=b.base.length:=by
  unfold atH
  rw [hr]
  exact qqd h.parse (qsg h.good h.tail)
 have hb:wc text=b.base:=by
  unfold wc
  rw [ha,hr,List.take_left]
 have hl:text.length - (kg text).length=(j5 b.gen).length:=by
  rw [hr]
  conv=>lhs;rw [h.txt]
  simp
 have hc:qbg text=(false,b.batches,b.ends,b.tail):=by
  unfold qbg
  rw [hl,ha,hr,List.drop_left,qvs b.batches _ b.tail _ _ _ h.good h.tail]
  ·rw [h.ends]
   simp
  ·have:∀ bs:List (List qp),bs.length≤(zo bs).length:=fun bs=>by
    induction bs with
    |nil=>simp
    |cons x r ih=>
     have:=qko x
     rw [km]
     simp
     omega
   have:=this b.batches
   rw [h.txt]
   simp
   omega
 have hlen:=h.len
 unfold jt
 rw [if_neg (by omega),hb,h.parse,hc,h.gen]
 simp
theorem qk1 {text:Bytes} {b:vr} (h:jt text=(.no,b)):xm text b:=by
 unfold jt at h
 split at h
 ·simp at h
 ·rename_i hlen
  split at h
  ·rename_i hp
   split at h
   ·simp at h
   ·rename_i hc
    simp only [Prod.mk.injEq,true_and] at h
    subst h
    have hs:=qdr text
    have hle:atH text≤(kg text).length:=(qmc _ _ _ (Nat.le_refl _) (Nat.le_refl _)).2
    have hrl:(kg text).length≤text.length:=by
     conv=>rhs;rw [hs.1]
     unfold kg
     simp
    have hhl:text.length - (kg text).length=(j5 (vf text).1).length:=by
     have:text.length=(j5 (vf text).1).length+(kg text).length:=by
      conv=>lhs;rw [hs.1]
      unfold kg
      simp
     omega
    have hq:qbg text=(false,(qbg text).2.1,(qbg text).2.2.1,(qbg text).2.2.2):=by
     have:(qbg text).1=false:=by simpa using hc
     rw [← this]
    obtain⟨bs,e1,e2,e3,e4,e5⟩:=qvl _ _ _ _ _ _ _ _ (by simp;omega) (show recsF (text.length+1) _ _ _ _=_ from hq)
    simp only [List.nil_append] at e2 e3
    have hbl:(wc text).length=atH text:=by unfold wc;simp;omega
    have hrest:kg text=wc text++(zo bs++(qbg text).2.2.2):=by
     rw [← e1]
     unfold wc
     rw [List.take_append_drop]
    refine⟨?_,?_,hp,?_,e5,?_,by omega⟩
    ·simp only
     rw [e2,← hrest]
     exact hs.1
    ·simp only
     rw [e2,← hrest]
     rfl
    ·simp only
     rw [e2]
     exact e4
    ·simp only
     rw [e2,e3,hbl,hhl]
     simp
  ·rename_i hp
   simp only [Prod.mk.injEq] at h
   exact absurd h.1 hp
def zi (b:vr):Bytes:=j5 b.gen++(b.base++zo b.batches)
def qa0 (b:vr):Int:=match b.ends.getLast? with
 |some e=>e
 |none=>((j5 b.gen).length+b.base.length:Nat)
theorem xm.split {text:Bytes} {b:vr} (h:xm text b):text=zi b++b.tail:=by
 have:=h.txt
 unfold zi
 simpa using this
theorem xm.whole {text:Bytes} {b:vr} (h:xm text b):qa0 b=((zi b).length:Int):=by
 unfold qa0
 rw [h.ends]
 by_cases h0:b.batches=[]
 ·rw [h0]
  simp [yn,zi,h0,zo]
 ·rw [qqk _ _ h0]
  simp [zi]
  omega
theorem xm.take {text:Bytes} {b:vr} (h:xm text b):text.take (qa0 b).toNat=zi b:=by
 rw [h.whole,Int.toNat_natCast]
 conv=>lhs;rw [h.split]
 rw [List.take_left]
theorem q1d {l:Bytes} (h:l≠[]) (hp:∀ p∈zr l,p.2=true):l.getLast? = some 10:=by
 have:∀ (k:Nat) (l:Bytes),l.length≤k→l≠[]→(∀ p∈zr l,p.2=true)→l.getLast? = some 10:=by
  intro k
  induction k with
  |zero=>intro l hl h0;exact absurd (List.length_eq_zero_iff.1 (by omega)) h0
  |succ k ih=>
   intro l hl h0 hp
   rw [we h0] at hp
   have h10:10∈l:=by simpa using hp _ (List.mem_cons_self ..)
   have e:=y9 h10
   by_cases hq:past 10 l=[]
   ·rw [hq] at e
    rw [e]
    simp
   ·have:=ih (past 10 l) (by have:=xa (c:=10) h0;omega) hq fun p hp'=>hp p (by simp [hp'])
    rw [e]
    rw [List.getLast?_append,List.getLast?_cons,this]
    simp
 exact this _ l (Nat.le_refl _) h hp
theorem q8d {l x:Bytes} {n:Int} (h:∀ p∈zr l,p.2=true) (hx:x=[]∨x.head? = some 37) (hp:xg n <+: l++x):xg n <+: l:=by
 rcases qr8 hp with h1 | ⟨r,h1,hr⟩
 ·exact h1
 ·by_cases hr0:r=[]
  ·rw [h1,hr0,List.append_nil]
   exact List.prefix_refl _
  ·exfalso
   obtain⟨c,q,rfl⟩:=List.exists_cons_of_ne_nil hr0
   have hc:c=37:=by
    obtain⟨t,ht⟩:=hr
    rcases hx with rfl|hx
    ·simp at ht
    ·rw [← ht] at hx
     simpa using hx
   subst hc
   by_cases hl:l=[]
   ·rw [hl] at h1
    simp [xg,genL] at h1
   ·have hlast:=q1d hl h
    obtain⟨q0,hq0⟩:∃ q0,l=q0++[10]:=by
     have:=qx6 hlast
     exact⟨_,this.symm⟩
    have e:genL++Lib.itoa n++10::[10]=q0++10::(37::q):=by
     have:=h1
     unfold xg at this
     rw [hq0] at this
     simpa using this
    have hu10:10∉genL++Lib.itoa n:=by
     intro h
     rcases List.mem_append.1 h with h|h
     ·revert h;decide
     ·exact qkc n h
    have hA:=w9 (c:=10) [10] hu10
    have hB:=yr (c:=10) [10] hu10
    rw [e] at hA hB
    by_cases hq10:10∈q0
    ·have e2:=y9 hq10
     have e3:q0++10::(37::q)=upto 10 q0++10::(past 10 q0++10::(37::q)):=by
      conv=>lhs;rw [e2]
      simp
     rw [e3,yr _ (qde 10 q0)] at hB
     have:=congrArg List.length hB
     simp at this
     omega
    ·rw [yr _ hq10] at hB
     simp at hB
theorem qoy {l x y:Bytes} (h:∀ p∈zr l,p.2=true) (hx:vf (l++x)=(0,l++x)) (hy:y=[]∨y.head? = some 37):vf (l++y)=(0,l++y):=by
 refine qru fun n r hg e=>?_
 obtain⟨t,ht⟩:=q8d (n:=n) h hy ⟨r,e.symm⟩
 have:vf (l++x)=(n,t++x):=by rw [← ht,List.append_assoc,qgw hg]
 rw [hx] at this
 have h0:(0:Int)=n:=(Prod.mk.inj this).1
 have:=hg.1
 omega
theorem xm.gen0 {text:Bytes} {b:vr} (h:xm text b):b.gen=0∨qaj b.gen:=by
 have:=(qdr text).2
 rw [h.gen] at this
 exact this
theorem xm.other {text:Bytes} {b:vr} (h:xm text b) {bs:List (List qp)} {t:Bytes} (hg:∀ x∈bs,qal x) (ht:(q9 t).1=2) (hlen:(j5 b.gen++(b.base++(zo bs++t))).length≤120000) :
  xm (j5 b.gen++(b.base++(zo bs++t))) ⟨b.gen,b.base,bs,yn ((j5 b.gen).length+b.base.length) bs,t⟩:=by
 refine⟨rfl,?_,h.parse,hg,ht,rfl,hlen⟩
 rcases h.gen0 with h0|h0
 ·have hgen:=h.gen
  have htext:=h.txt
  have e:j5 b.gen=[]:=by unfold j5;rw [if_neg (by rw [h0];decide)]
  rw [e,List.nil_append] at htext ⊢
  rw [h0,htext] at hgen
  simp only
  rw [h0]
  exact qoy (fun p hp=>((qhu h.parse).1 p hp).2) hgen (qrw (qsg hg ht))
 ·have e:j5 b.gen=xg b.gen:=by unfold j5;rw [if_pos h0]
  simp only
  rw [e,qgw h0]
theorem q48:q9 []=(2,[],0):=by
 unfold q9 qee
 rw [if_neg (by simp),if_pos]
 rw [if_neg (by decide)]
 decide
theorem xm.more {text:Bytes} {b:vr} (h:xm text b) {x:List qp} (hx:qal x) (hl:(zi b++recE x).length≤120000):xm (zi b++recE x) { b with batches:=b.batches++[x],ends:=b.ends++[qa0 b+(recE x).length],tail:=[] }:=by
 have e:j5 b.gen++(b.base++(zo (b.batches++[x])++[]))=zi b++recE x:=by simp [zi,q0e]
 have:=h.other (bs:=b.batches++[x]) (t:=[]) (fun y hy=>by
  rcases List.mem_append.1 hy with hy|hy
  ·exact h.good y hy
  ·obtain rfl:=List.mem_singleton.1 hy
   exact hx) (by rw [q48]) (by rw [e];exact hl)
 rw [e,qou,← h.ends] at this
 have hw:((j5 b.gen).length+b.base.length+(zo b.batches).length+(recE x).length:Int)=qa0 b+(recE x).length:=by
  rw [h.whole]
  simp [zi]
  omega
 rw [hw] at this
 exact this
def appF (text:Bytes) (x:List qp):ErrV×Bytes:=
 match (jt text).1 with
 | .no=>match eErr x with
  | .no=>if 50000<(encF x).length then (.num 11,[]) else if 120000<qa0 (jt text).2+(recE x).length then (.num 11,[]) else (.no,text.take (qa0 (jt text).2).toNat++recE x)
  |e=>(e,[])
 |e=>(e,[])
theorem q8r {text s:Bytes} {x:List qp} (hB:∀ y∈x,EdB y) (h:appF text x=(.no,s)):∃ b,xm text b∧qal x∧s=zi b++recE x∧s.length≤120000:=by
 unfold appF at h
 split at h
 ·rename_i hb
  have hb':jt text=(.no,(jt text).2):=by rw [← hb]
  generalize (jt text).2=b at hb' h
  have hT:=qk1 hb'
  split at h
  ·rename_i he
   split at h
   ·simp at h
   ·split at h
    ·simp at h
    ·rename_i h1 h2
     simp only [Prod.mk.injEq,true_and] at h
     rw [hT.take] at h
     rw [hT.whole] at h2
     exact⟨b,hT,⟨he,hB,by omega⟩,h.symm,by rw [← h];simp;omega⟩
  ·rename_i he
   simp only [Prod.mk.injEq] at h
   exact absurd h.1 he
 ·rename_i hb
  simp only [Prod.mk.injEq] at h
  exact absurd h.1 hb
end Go.Pl
namespace Go.Proofs.YtmoklbacdkmkaaaGreatDoor
open Go Go.Av Go.RowKit Go.Proofs Go.Pl
theorem qkr (n:Int) (st:List AObj) (h:qaj n):qn E 99 [Iv n] st fun r st'=>r = .tu [Sv (xg n),.v .nilIface]∧st'=st:=by
 have h1:=h.1
 have h2:=h.2
 have hl:=qlp (v:=n) (by omega) (by omega)
 have hit:=fun st=>qlf n st (by omega) (by omega)
 refine vc [.i n] (va (q6 _) (q6 _)) Tryz.func99 rfl rfl (fun _=>rfl) rfl fun S0=>?_
 apply qh []
 repeat' (first|apply And.intro|(intro h;try exact cDd)|exact⟨Tryz.call155⟩|refine cpe hit ?_|exact cSd|apply qb []|refine exr ?_|refine qm ?_)
 all_goals first|(simp;omega)|(simp [xg,genL];done)
theorem qwh (n:Int) (st:List AObj) (h:¬ qaj n):qn E 99 [Iv n] st fun r st'=>r = .tu [Sv [],.ifc 76 (Iv 1)]∧st'=st:=by
 refine vc [.i n] (va (q6 _) (qb1 (q6 _))) Tryz.func99 rfl rfl (fun _=>rfl) rfl fun S0=>?_
 unfold qaj at h
 apply qh []
 repeat' (first|apply And.intro|(intro h;try exact cDd)|exact cSd|apply qb []|refine exr ?_|refine qm ?_)
theorem q30 (n:Int) (st:List AObj):qn E 77 [Iv n] st fun r st'=>r=Iv ((j5 n).length:Nat)∧st'=st:=by
 refine vc [.i n] (q6 _) Tryz.func77 rfl rfl (fun _=>rfl) rfl fun S0=>?_
 by_cases hg:qaj n
 ·have e:j5 n=xg n:=by unfold j5;rw [if_pos hg]
  have hln:=fun st=>qkr n st hg
  rw [e]
  apply qh []
  repeat' (first|apply And.intro|(intro h;try exact cDd)|exact⟨Tryz.call99⟩|refine cpe hln ?_|exact cSd|apply qb []|refine exr ?_|refine qm ?_)
 ·have e:j5 n=[]:=by unfold j5;rw [if_neg hg]
  have hln:=fun st=>qwh n st hg
  rw [e]
  apply qh []
  repeat' (first|apply And.intro|(intro h;try exact cDd)|exact⟨Tryz.call99⟩|refine cpe hln ?_|exact cSd|apply qb []|refine exr ?_|refine qm ?_)
theorem q28 (l:Bytes) (st:List AObj):qn E 98 [Sv (genL++l),Sv [35,37,103,101,110,32]] st fun r st'=>r=Sv l∧st'=st:=by
 have:=qht (genL++l) [35,37,103,101,110,32] st
 rw [qca (show [35,37,103,101,110,32] <+: genL++l from List.prefix_append genL l)] at this
 have e:(genL++l).drop ([35,37,103,101,110,32]:Bytes).length=l:=by rw [show ([35,37,103,101,110,32]:Bytes).length=genL.length by rfl,List.drop_left]
 rw [e] at this
 exact this
set_option maxHeartbeats 2000000 in
theorem qzi (text:Bytes) (st:List AObj) (hl:text.length<1000000):qn E 56 [Sv text] st fun r st'=>r = .tu [Iv (vf text).1,Sv (vf text).2]∧st'=st:=by
 refine q7 (va (q6 _) (q6 _)) (qo Tryz.func56 rfl (Nat.le_of_ble_eq_true rfl) ?_)
 rcases qm0 text with⟨n,r,hg,he,ht⟩ | ⟨hno,ht⟩
 ·rw [ht]
  have hn10:10∉genL++Lib.itoa n:=fun h=>by
   rcases List.mem_append.1 h with h|h
   ·revert h;decide
   ·exact qkc n h
  have hcut:∀ st,qn E 96 [Sv text,Sv [10,10]] st fun x st'=>x = .tu [Sv (genL++Lib.itoa n),Sv r,Bv true]∧st'=st:=fun st=>by
   have:=qqa text [10,10] st (by omega)
   rw [he,qkp,← List.append_assoc,zag r hn10] at this
   rw [he,qkp,← List.append_assoc]
   exact this
  have hb:=qlp (v:=n) (by have:=hg.1;omega) (by have:=hg.2;omega)
  have hgl:genL.length=6:=rfl
  have hat:=qku (v:=n) (by have:=hg.1;omega) (by have:=hg.2;omega)
  repeat' (first|(apply qec;first|apply qk|apply qu|apply qc|(apply qa;exact rfl;apply kl;exact cAo)|(apply qa;exact rfl;apply ko;exact cAo)|(apply qa;exact rfl;apply qd8;exact cRa)|(apply qa;exact rfl;apply qe4;exact cRa)|(apply qa;exact rfl;apply cd_n <;> intro h)|(apply qa;exact rfl;apply cd_t;exact cRa)|(apply qa;exact rfl;apply cd_f;exact cRa)|(apply qa;exact rfl;apply cd_d <;> intro h)|(apply qa;exact rfl;apply cd_s <;> intro h)|(apply qc8;exact rfl;kernel_rfl)|apply qs|apply jp|apply qr)|(apply qb3;first|(apply ze;(iterate 4 exact rfl))|(apply vt;(iterate 4 exact rfl)))|(apply qfg;first|(apply yu;exact cAo)|(apply wl;exact cAo)|(apply wq;exact cAo)|(apply yl;exact cAo)|(apply qbw;exact cRa)|(apply ym;exact cRa)|(apply yg;exact cRa)|(apply qaz;exact cRa)|(apply yz <;> intro h)|(apply x6;exact cRa)|(apply qcv;exact cRa)|(apply yh;exact cRa)|(apply xe;exact cRa)|(apply vg <;> intro h)|(apply qai <;> intro h))|(apply qfs;first|apply qdx|(apply qft;(iterate 4 exact rfl))|(apply qih;exact rfl;exact rfl;exact q5 (by omega) (by omega))|(apply qfx;(iterate 4 exact rfl);exact cAs;exact cAs)|(apply qbd;(iterate 5 exact rfl))|(apply qbs;exact rfl;exact rfl;exact cOs)|(apply qa5;(iterate 3 exact rfl))|(apply y7;(iterate 5 exact rfl))|(apply xj;(iterate 4 exact rfl))|(apply xk;(iterate 3 exact rfl))|(apply qgg;(iterate 3 exact rfl);exact cAs)|(apply qen;exact rfl;exact rfl)|(apply qcu;exact rfl;exact rfl)|(apply qct;(iterate 3 exact rfl);omega)|(apply qbp;(iterate 3 exact rfl))|apply qcj|apply qbv|(apply qhz;exact rfl;exact rfl;exact q5 (by omega) (by omega))|(apply qfi;(iterate 3 exact rfl))|(apply qem;(iterate 3 exact rfl);exact cAs)|(apply qew;(iterate 3 exact rfl);exact cAs)|(apply qa4;exact rfl;exact rfl))|(apply qb8;first|(apply qq;(iterate 3 exact rfl))|(apply jb;(iterate 3 exact rfl))|(apply jq;exact rfl;exact rfl;exact cOs)|(apply zv;exact rfl;exact rfl;exact q5 (by omega) (by omega))|(apply xn;exact rfl;exact rfl;exact q5 (by omega) (by omega))|(apply ji;exact rfl;exact rfl)|(apply jj;exact rfl;exact rfl)|(apply wx;exact rfl;exact rfl)|(apply wz;exact rfl;exact rfl)|(apply wh;(iterate 3 exact rfl))|(apply xu;(iterate 3 exact rfl))|(apply yc;exact rfl;exact rfl;(first|exact qv _|exact rfl);first|exact qv _|exact rfl)|(apply y5;exact rfl;exact rfl;(first|exact qv _|exact rfl);first|exact qv _|exact rfl)|(apply qc1;exact rfl;exact rfl;(first|exact qv _|exact rfl);first|exact qv _|exact rfl)|(apply xl;(iterate 3 exact rfl))|(apply ye;(iterate 3 exact rfl)))|(apply qc7;first|(apply zn;(iterate 3 exact rfl))|(apply xv;(iterate 5 exact rfl))|(apply zh;(iterate 5 exact rfl)))|(apply qc2;first|(apply qa8;exact rfl)|(apply jc;exact rfl)|(apply xi;exact rfl))|(apply qb4;first|(apply qaw;(iterate 3 exact rfl);exact cAs)|(apply qas;(iterate 3 exact rfl);exact cAs)|(apply qbr;(iterate 4 exact rfl);exact cAs;exact cAs)|(apply wi;(iterate 4 exact rfl);(first|assumption|omega|exact Nat.succ_le_succ (Nat.zero_le _)|(simp;omega));exact rfl))|(apply qcz;first|(apply jz;(iterate 3 exact rfl))|(apply zl;(iterate 4 exact rfl)))|(apply x5;first|(apply qz;(iterate 3 exact rfl))|(apply vm;(iterate 4 exact rfl)))|(apply qb7;first|(apply ve;(iterate 11 exact rfl))|(apply zf;(iterate 11 exact rfl)))|(apply qed;first|apply qd|apply qj|apply qe|(apply zg;exact rfl;exact rfl)|(apply qi;exact rfl;apply y6;exact cAo)|(apply qi;exact rfl;apply yo;exact cAo)|(apply qi;exact rfl;apply qff;exact cRa)|(apply qi;exact rfl;apply qd5;exact cRa)|(apply qi;exact rfl;apply pk_t;exact cRa)|(apply qi;exact rfl;apply pk_f;exact cRa)|(apply za;exact rfl;exact rfl)|apply w7|(apply zm;exact rfl;exact rfl)|(apply vu;(iterate 4 exact rfl))|(apply y0;(iterate 3 exact rfl))|(apply qby;(iterate 3 exact rfl);exact cAs)|(apply jr;(iterate 3 exact rfl))|(apply js;(iterate 9 exact rfl))|(apply kh;exact rfl;exact rfl)|(apply yb;(iterate 4 exact rfl);(first|assumption|omega|decide);exact rfl)|(apply vo;(iterate 4 exact rfl);first|assumption|omega|decide))|(apply qg;exact Tryz.call96;exact hcut _)|(apply qg;exact Tryz.call98;exact q28 _ _))
  refine qeq Tryz.call97 ((ql8 (Lib.itoa n) _ (by omega)).mono ?_)
  rintro _ _ ⟨rfl,n',x,rfl,hx⟩
  rcases x with _ | ⟨t',y⟩
  ·simp only at hx
   rw [hat] at hx
   have e:n=n':=by simpa using hx
   subst e
   show AOps _ _ _ _ _ _ _
   have hs:xg n=(genL++Lib.itoa n)++[10,10]:=rfl
   have hs2:¬ xg n≠(genL++Lib.itoa n)++[10,10]:=fun h=>h hs
   repeat' (first|(apply qec;first|apply qk|apply qu|apply qc|(apply qa;exact rfl;apply kl;exact cAo)|(apply qa;exact rfl;apply ko;exact cAo)|(apply qa;exact rfl;apply qd8;exact cRa)|(apply qa;exact rfl;apply qe4;exact cRa)|(apply qa;exact rfl;apply cd_n <;> intro h)|(apply qa;exact rfl;apply cd_t;exact cRa)|(apply qa;exact rfl;apply cd_f;exact cRa)|(apply qa;exact rfl;apply cd_d <;> intro h)|(apply qa;exact rfl;apply cd_s <;> intro h)|(apply qc8;exact rfl;kernel_rfl)|apply qs|apply jp|apply qr)|(apply qb3;first|(apply ze;(iterate 4 exact rfl))|(apply vt;(iterate 4 exact rfl)))|(apply qfg;first|(apply yu;exact cAo)|(apply wl;exact cAo)|(apply wq;exact cAo)|(apply yl;exact cAo)|(apply qbw;exact cRa)|(apply ym;exact cRa)|(apply yg;exact cRa)|(apply qaz;exact cRa)|(apply yz <;> intro h)|(apply x6;exact cRa)|(apply qcv;exact cRa)|(apply yh;exact cRa)|(apply xe;exact cRa)|(apply vg <;> intro h)|(apply qai <;> intro h))|(apply qfs;first|apply qdx|(apply qft;(iterate 4 exact rfl))|(apply qih;exact rfl;exact rfl;exact q5 (by omega) (by omega))|(apply qfx;(iterate 4 exact rfl);exact cAs;exact cAs)|(apply qbd;(iterate 5 exact rfl))|(apply qbs;exact rfl;exact rfl;exact cOs)|(apply qa5;(iterate 3 exact rfl))|(apply y7;(iterate 5 exact rfl))|(apply xj;(iterate 4 exact rfl))|(apply xk;(iterate 3 exact rfl))|(apply qgg;(iterate 3 exact rfl);exact cAs)|(apply qen;exact rfl;exact rfl)|(apply qcu;exact rfl;exact rfl)|(apply qct;(iterate 3 exact rfl);omega)|(apply qbp;(iterate 3 exact rfl))|apply qcj|apply qbv|(apply qhz;exact rfl;exact rfl;exact q5 (by omega) (by omega))|(apply qfi;(iterate 3 exact rfl))|(apply qem;(iterate 3 exact rfl);exact cAs)|(apply qew;(iterate 3 exact rfl);exact cAs)|(apply qa4;exact rfl;exact rfl))|(apply qb8;first|(apply qq;(iterate 3 exact rfl))|(apply jb;(iterate 3 exact rfl))|(apply jq;exact rfl;exact rfl;exact cOs)|(apply zv;exact rfl;exact rfl;exact q5 (by omega) (by omega))|(apply xn;exact rfl;exact rfl;exact q5 (by omega) (by omega))|(apply ji;exact rfl;exact rfl)|(apply jj;exact rfl;exact rfl)|(apply wx;exact rfl;exact rfl)|(apply wz;exact rfl;exact rfl)|(apply wh;(iterate 3 exact rfl))|(apply xu;(iterate 3 exact rfl))|(apply yc;exact rfl;exact rfl;(first|exact qv _|exact rfl);first|exact qv _|exact rfl)|(apply y5;exact rfl;exact rfl;(first|exact qv _|exact rfl);first|exact qv _|exact rfl)|(apply qc1;exact rfl;exact rfl;(first|exact qv _|exact rfl);first|exact qv _|exact rfl)|(apply xl;(iterate 3 exact rfl))|(apply ye;(iterate 3 exact rfl)))|(apply qc7;first|(apply zn;(iterate 3 exact rfl))|(apply xv;(iterate 5 exact rfl))|(apply zh;(iterate 5 exact rfl)))|(apply qc2;first|(apply qa8;exact rfl)|(apply jc;exact rfl)|(apply xi;exact rfl))|(apply qb4;first|(apply qaw;(iterate 3 exact rfl);exact cAs)|(apply qas;(iterate 3 exact rfl);exact cAs)|(apply qbr;(iterate 4 exact rfl);exact cAs;exact cAs)|(apply wi;(iterate 4 exact rfl);(first|assumption|omega|exact Nat.succ_le_succ (Nat.zero_le _)|(simp;omega));exact rfl))|(apply qcz;first|(apply jz;(iterate 3 exact rfl))|(apply zl;(iterate 4 exact rfl)))|(apply x5;first|(apply qz;(iterate 3 exact rfl))|(apply vm;(iterate 4 exact rfl)))|(apply qb7;first|(apply ve;(iterate 11 exact rfl))|(apply zf;(iterate 11 exact rfl)))|(apply qed;first|apply qd|apply qj|apply qe|(apply zg;exact rfl;exact rfl)|(apply qi;exact rfl;apply y6;exact cAo)|(apply qi;exact rfl;apply yo;exact cAo)|(apply qi;exact rfl;apply qff;exact cRa)|(apply qi;exact rfl;apply qd5;exact cRa)|(apply qi;exact rfl;apply pk_t;exact cRa)|(apply qi;exact rfl;apply pk_f;exact cRa)|(apply za;exact rfl;exact rfl)|apply w7|(apply zm;exact rfl;exact rfl)|(apply vu;(iterate 4 exact rfl))|(apply y0;(iterate 3 exact rfl))|(apply qby;(iterate 3 exact rfl);exact cAs)|(apply jr;(iterate 3 exact rfl))|(apply js;(iterate 9 exact rfl))|(apply kh;exact rfl;exact rfl)|(apply yb;(iterate 4 exact rfl);(first|assumption|omega|decide);exact rfl)|(apply vo;(iterate 4 exact rfl);first|assumption|omega|decide))|(apply qg;exact Tryz.call99;exact qkr _ _ hg))
   exact ql rfl (v8 rfl) ⟨rfl,_,rfl⟩
  ·exact absurd hat (hx n)
 ·rw [ht]
  have hfst:=qpa text [10,10]
  have hct:=fun h=>q49 (l:=text) (m:=[10,10]) h
  have htr:=qd9 (Lib.cut text [10,10]).1 [35,37,103,101,110,32]
  have hcc:=fun st=>qqa text [10,10] st (by omega)
  generalize Lib.cut text [10,10]=c at hfst hct htr hcc
  obtain⟨a,b,d⟩:=c
  simp only at hfst hct htr hcc
  repeat' (first|(apply qec;first|apply qk|apply qu|apply qc|(apply qa;exact rfl;apply kl;exact cAo)|(apply qa;exact rfl;apply ko;exact cAo)|(apply qa;exact rfl;apply qd8;exact cRa)|(apply qa;exact rfl;apply qe4;exact cRa)|(apply qa;exact rfl;apply cd_n <;> intro h)|(apply qa;exact rfl;apply cd_t;exact cRa)|(apply qa;exact rfl;apply cd_f;exact cRa)|(apply qa;exact rfl;apply cd_d <;> intro h)|(apply qa;exact rfl;apply cd_s <;> intro h)|(apply qc8;exact rfl;kernel_rfl)|apply qs|apply jp|apply qr)|(apply qb3;first|(apply ze;(iterate 4 exact rfl))|(apply vt;(iterate 4 exact rfl)))|(apply qfg;first|(apply yu;exact cAo)|(apply wl;exact cAo)|(apply wq;exact cAo)|(apply yl;exact cAo)|(apply qbw;exact cRa)|(apply ym;exact cRa)|(apply yg;exact cRa)|(apply qaz;exact cRa)|(apply yz <;> intro h)|(apply x6;exact cRa)|(apply qcv;exact cRa)|(apply yh;exact cRa)|(apply xe;exact cRa)|(apply vg <;> intro h)|(apply qai <;> intro h))|(apply qfs;first|apply qdx|(apply qft;(iterate 4 exact rfl))|(apply qih;exact rfl;exact rfl;exact q5 (by omega) (by omega))|(apply qfx;(iterate 4 exact rfl);exact cAs;exact cAs)|(apply qbd;(iterate 5 exact rfl))|(apply qbs;exact rfl;exact rfl;exact cOs)|(apply qa5;(iterate 3 exact rfl))|(apply y7;(iterate 5 exact rfl))|(apply xj;(iterate 4 exact rfl))|(apply xk;(iterate 3 exact rfl))|(apply qgg;(iterate 3 exact rfl);exact cAs)|(apply qen;exact rfl;exact rfl)|(apply qcu;exact rfl;exact rfl)|(apply qct;(iterate 3 exact rfl);omega)|(apply qbp;(iterate 3 exact rfl))|apply qcj|apply qbv|(apply qhz;exact rfl;exact rfl;exact q5 (by omega) (by omega))|(apply qfi;(iterate 3 exact rfl))|(apply qem;(iterate 3 exact rfl);exact cAs)|(apply qew;(iterate 3 exact rfl);exact cAs)|(apply qa4;exact rfl;exact rfl))|(apply qb8;first|(apply qq;(iterate 3 exact rfl))|(apply jb;(iterate 3 exact rfl))|(apply jq;exact rfl;exact rfl;exact cOs)|(apply zv;exact rfl;exact rfl;exact q5 (by omega) (by omega))|(apply xn;exact rfl;exact rfl;exact q5 (by omega) (by omega))|(apply ji;exact rfl;exact rfl)|(apply jj;exact rfl;exact rfl)|(apply wx;exact rfl;exact rfl)|(apply wz;exact rfl;exact rfl)|(apply wh;(iterate 3 exact rfl))|(apply xu;(iterate 3 exact rfl))|(apply yc;exact rfl;exact rfl;(first|exact qv _|exact rfl);first|exact qv _|exact rfl)|(apply y5;exact rfl;exact rfl;(first|exact qv _|exact rfl);first|exact qv _|exact rfl)|(apply qc1;exact rfl;exact rfl;(first|exact qv _|exact rfl);first|exact qv _|exact rfl)|(apply xl;(iterate 3 exact rfl))|(apply ye;(iterate 3 exact rfl)))|(apply qc7;first|(apply zn;(iterate 3 exact rfl))|(apply xv;(iterate 5 exact rfl))|(apply zh;(iterate 5 exact rfl)))|(apply qc2;first|(apply qa8;exact rfl)|(apply jc;exact rfl)|(apply xi;exact rfl))|(apply qb4;first|(apply qaw;(iterate 3 exact rfl);exact cAs)|(apply qas;(iterate 3 exact rfl);exact cAs)|(apply qbr;(iterate 4 exact rfl);exact cAs;exact cAs)|(apply wi;(iterate 4 exact rfl);(first|assumption|omega|exact Nat.succ_le_succ (Nat.zero_le _)|(simp;omega));exact rfl))|(apply qcz;first|(apply jz;(iterate 3 exact rfl))|(apply zl;(iterate 4 exact rfl)))|(apply x5;first|(apply qz;(iterate 3 exact rfl))|(apply vm;(iterate 4 exact rfl)))|(apply qb7;first|(apply ve;(iterate 11 exact rfl))|(apply zf;(iterate 11 exact rfl)))|(apply qed;first|apply qd|apply qj|apply qe|(apply zg;exact rfl;exact rfl)|(apply qi;exact rfl;apply y6;exact cAo)|(apply qi;exact rfl;apply yo;exact cAo)|(apply qi;exact rfl;apply qff;exact cRa)|(apply qi;exact rfl;apply qd5;exact cRa)|(apply qi;exact rfl;apply pk_t;exact cRa)|(apply qi;exact rfl;apply pk_f;exact cRa)|(apply za;exact rfl;exact rfl)|apply w7|(apply zm;exact rfl;exact rfl)|(apply vu;(iterate 4 exact rfl))|(apply y0;(iterate 3 exact rfl))|(apply qby;(iterate 3 exact rfl);exact cAs)|(apply jr;(iterate 3 exact rfl))|(apply js;(iterate 9 exact rfl))|(apply kh;exact rfl;exact rfl)|(apply yb;(iterate 4 exact rfl);(first|assumption|omega|decide);exact rfl)|(apply vo;(iterate 4 exact rfl);first|assumption|omega|decide))|(apply qg;exact Tryz.call96;exact hcc _)|(apply qg;exact Tryz.call98;exact qht _ _ _))
  refine qeq Tryz.call97 ((ql8 (Lib.trimPrefix a [35,37,103,101,110,32]) _ (by omega)).mono ?_)
  rintro _ _ ⟨rfl,n,x,rfl,hx⟩
  show AOps _ _ _ _ _ _ _
  have hbad:¬ (d=true∧qaj n∧xg n=a++[10,10]):=fun ⟨h1,h2,h3⟩=>by
   refine hno n b h2 ?_
   rw [h3]
   exact hct h1
  by_cases hg:qaj n
  ·have hll:=qsf hg
   cases d with
   |false=>
    rcases x with _ | ⟨t',y⟩
    all_goals
     repeat' (first|(apply qec;first|apply qk|apply qu|apply qc|(apply qa;exact rfl;apply kl;exact cAo)|(apply qa;exact rfl;apply ko;exact cAo)|(apply qa;exact rfl;apply qd8;exact cRa)|(apply qa;exact rfl;apply qe4;exact cRa)|(apply qa;exact rfl;apply cd_n <;> intro h)|(apply qa;exact rfl;apply cd_t;exact cRa)|(apply qa;exact rfl;apply cd_f;exact cRa)|(apply qa;exact rfl;apply cd_d <;> intro h)|(apply qa;exact rfl;apply cd_s <;> intro h)|(apply qc8;exact rfl;kernel_rfl)|apply qs|apply jp|apply qr)|(apply qb3;first|(apply ze;(iterate 4 exact rfl))|(apply vt;(iterate 4 exact rfl)))|(apply qfg;first|(apply yu;exact cAo)|(apply wl;exact cAo)|(apply wq;exact cAo)|(apply yl;exact cAo)|(apply qbw;exact cRa)|(apply ym;exact cRa)|(apply yg;exact cRa)|(apply qaz;exact cRa)|(apply yz <;> intro h)|(apply x6;exact cRa)|(apply qcv;exact cRa)|(apply yh;exact cRa)|(apply xe;exact cRa)|(apply vg <;> intro h)|(apply qai <;> intro h))|(apply qfs;first|apply qdx|(apply qft;(iterate 4 exact rfl))|(apply qih;exact rfl;exact rfl;exact q5 (by omega) (by omega))|(apply qfx;(iterate 4 exact rfl);exact cAs;exact cAs)|(apply qbd;(iterate 5 exact rfl))|(apply qbs;exact rfl;exact rfl;exact cOs)|(apply qa5;(iterate 3 exact rfl))|(apply y7;(iterate 5 exact rfl))|(apply xj;(iterate 4 exact rfl))|(apply xk;(iterate 3 exact rfl))|(apply qgg;(iterate 3 exact rfl);exact cAs)|(apply qen;exact rfl;exact rfl)|(apply qcu;exact rfl;exact rfl)|(apply qct;(iterate 3 exact rfl);omega)|(apply qbp;(iterate 3 exact rfl))|apply qcj|apply qbv|(apply qhz;exact rfl;exact rfl;exact q5 (by omega) (by omega))|(apply qfi;(iterate 3 exact rfl))|(apply qem;(iterate 3 exact rfl);exact cAs)|(apply qew;(iterate 3 exact rfl);exact cAs)|(apply qa4;exact rfl;exact rfl))|(apply qb8;first|(apply qq;(iterate 3 exact rfl))|(apply jb;(iterate 3 exact rfl))|(apply jq;exact rfl;exact rfl;exact cOs)|(apply zv;exact rfl;exact rfl;exact q5 (by omega) (by omega))|(apply xn;exact rfl;exact rfl;exact q5 (by omega) (by omega))|(apply ji;exact rfl;exact rfl)|(apply jj;exact rfl;exact rfl)|(apply wx;exact rfl;exact rfl)|(apply wz;exact rfl;exact rfl)|(apply wh;(iterate 3 exact rfl))|(apply xu;(iterate 3 exact rfl))|(apply yc;exact rfl;exact rfl;(first|exact qv _|exact rfl);first|exact qv _|exact rfl)|(apply y5;exact rfl;exact rfl;(first|exact qv _|exact rfl);first|exact qv _|exact rfl)|(apply qc1;exact rfl;exact rfl;(first|exact qv _|exact rfl);first|exact qv _|exact rfl)|(apply xl;(iterate 3 exact rfl))|(apply ye;(iterate 3 exact rfl)))|(apply qc7;first|(apply zn;(iterate 3 exact rfl))|(apply xv;(iterate 5 exact rfl))|(apply zh;(iterate 5 exact rfl)))|(apply qc2;first|(apply qa8;exact rfl)|(apply jc;exact rfl)|(apply xi;exact rfl))|(apply qb4;first|(apply qaw;(iterate 3 exact rfl);exact cAs)|(apply qas;(iterate 3 exact rfl);exact cAs)|(apply qbr;(iterate 4 exact rfl);exact cAs;exact cAs)|(apply wi;(iterate 4 exact rfl);(first|assumption|omega|exact Nat.succ_le_succ (Nat.zero_le _)|(simp;omega));exact rfl))|(apply qcz;first|(apply jz;(iterate 3 exact rfl))|(apply zl;(iterate 4 exact rfl)))|(apply x5;first|(apply qz;(iterate 3 exact rfl))|(apply vm;(iterate 4 exact rfl)))|(apply qb7;first|(apply ve;(iterate 11 exact rfl))|(apply zf;(iterate 11 exact rfl)))|(apply qed;first|apply qd|apply qj|apply qe|(apply zg;exact rfl;exact rfl)|(apply qi;exact rfl;apply y6;exact cAo)|(apply qi;exact rfl;apply yo;exact cAo)|(apply qi;exact rfl;apply qff;exact cRa)|(apply qi;exact rfl;apply qd5;exact cRa)|(apply qi;exact rfl;apply pk_t;exact cRa)|(apply qi;exact rfl;apply pk_f;exact cRa)|(apply za;exact rfl;exact rfl)|apply w7|(apply zm;exact rfl;exact rfl)|(apply vu;(iterate 4 exact rfl))|(apply y0;(iterate 3 exact rfl))|(apply qby;(iterate 3 exact rfl);exact cAs)|(apply jr;(iterate 3 exact rfl))|(apply js;(iterate 9 exact rfl))|(apply kh;exact rfl;exact rfl)|(apply yb;(iterate 4 exact rfl);(first|assumption|omega|decide);exact rfl)|(apply vo;(iterate 4 exact rfl);first|assumption|omega|decide))|(apply qg;exact Tryz.call99;exact qkr _ _ hg))
     exact ql rfl (v8 rfl) ⟨rfl,_,rfl⟩
   |true=>
    have hne:xg n≠a++[10,10]:=fun h=>hbad ⟨rfl,hg,h⟩
    rcases x with _ | ⟨t',y⟩
    all_goals
     repeat' (first|(apply qec;first|apply qk|apply qu|apply qc|(apply qa;exact rfl;apply kl;exact cAo)|(apply qa;exact rfl;apply ko;exact cAo)|(apply qa;exact rfl;apply qd8;exact cRa)|(apply qa;exact rfl;apply qe4;exact cRa)|(apply qa;exact rfl;apply cd_n <;> intro h)|(apply qa;exact rfl;apply cd_t;exact cRa)|(apply qa;exact rfl;apply cd_f;exact cRa)|(apply qa;exact rfl;apply cd_d <;> intro h)|(apply qa;exact rfl;apply cd_s <;> intro h)|(apply qc8;exact rfl;kernel_rfl)|apply qs|apply jp|apply qr)|(apply qb3;first|(apply ze;(iterate 4 exact rfl))|(apply vt;(iterate 4 exact rfl)))|(apply qfg;first|(apply yu;exact cAo)|(apply wl;exact cAo)|(apply wq;exact cAo)|(apply yl;exact cAo)|(apply qbw;exact cRa)|(apply ym;exact cRa)|(apply yg;exact cRa)|(apply qaz;exact cRa)|(apply yz <;> intro h)|(apply x6;exact cRa)|(apply qcv;exact cRa)|(apply yh;exact cRa)|(apply xe;exact cRa)|(apply vg <;> intro h)|(apply qai <;> intro h))|(apply qfs;first|apply qdx|(apply qft;(iterate 4 exact rfl))|(apply qih;exact rfl;exact rfl;exact q5 (by omega) (by omega))|(apply qfx;(iterate 4 exact rfl);exact cAs;exact cAs)|(apply qbd;(iterate 5 exact rfl))|(apply qbs;exact rfl;exact rfl;exact cOs)|(apply qa5;(iterate 3 exact rfl))|(apply y7;(iterate 5 exact rfl))|(apply xj;(iterate 4 exact rfl))|(apply xk;(iterate 3 exact rfl))|(apply qgg;(iterate 3 exact rfl);exact cAs)|(apply qen;exact rfl;exact rfl)|(apply qcu;exact rfl;exact rfl)|(apply qct;(iterate 3 exact rfl);omega)|(apply qbp;(iterate 3 exact rfl))|apply qcj|apply qbv|(apply qhz;exact rfl;exact rfl;exact q5 (by omega) (by omega))|(apply qfi;(iterate 3 exact rfl))|(apply qem;(iterate 3 exact rfl);exact cAs)|(apply qew;(iterate 3 exact rfl);exact cAs)|(apply qa4;exact rfl;exact rfl))|(apply qb8;first|(apply qq;(iterate 3 exact rfl))|(apply jb;(iterate 3 exact rfl))|(apply jq;exact rfl;exact rfl;exact cOs)|(apply zv;exact rfl;exact rfl;exact q5 (by omega) (by omega))|(apply xn;exact rfl;exact rfl;exact q5 (by omega) (by omega))|(apply ji;exact rfl;exact rfl)|(apply jj;exact rfl;exact rfl)|(apply wx;exact rfl;exact rfl)|(apply wz;exact rfl;exact rfl)|(apply wh;(iterate 3 exact rfl))|(apply xu;(iterate 3 exact rfl))|(apply yc;exact rfl;exact rfl;(first|exact qv _|exact rfl);first|exact qv _|exact rfl)|(apply y5;exact rfl;exact rfl;(first|exact qv _|exact rfl);first|exact qv _|exact rfl)|(apply qc1;exact rfl;exact rfl;(first|exact qv _|exact rfl);first|exact qv _|exact rfl)|(apply xl;(iterate 3 exact rfl))|(apply ye;(iterate 3 exact rfl)))|(apply qc7;first|(apply zn;(iterate 3 exact rfl))|(apply xv;(iterate 5 exact rfl))|(apply zh;(iterate 5 exact rfl)))|(apply qc2;first|(apply qa8;exact rfl)|(apply jc;exact rfl)|(apply xi;exact rfl))|(apply qb4;first|(apply qaw;(iterate 3 exact rfl);exact cAs)|(apply qas;(iterate 3 exact rfl);exact cAs)|(apply qbr;(iterate 4 exact rfl);exact cAs;exact cAs)|(apply wi;(iterate 4 exact rfl);(first|assumption|omega|exact Nat.succ_le_succ (Nat.zero_le _)|(simp;omega));exact rfl))|(apply qcz;first|(apply jz;(iterate 3 exact rfl))|(apply zl;(iterate 4 exact rfl)))|(apply x5;first|(apply qz;(iterate 3 exact rfl))|(apply vm;(iterate 4 exact rfl)))|(apply qb7;first|(apply ve;(iterate 11 exact rfl))|(apply zf;(iterate 11 exact rfl)))|(apply qed;first|apply qd|apply qj|apply qe|(apply zg;exact rfl;exact rfl)|(apply qi;exact rfl;apply y6;exact cAo)|(apply qi;exact rfl;apply yo;exact cAo)|(apply qi;exact rfl;apply qff;exact cRa)|(apply qi;exact rfl;apply qd5;exact cRa)|(apply qi;exact rfl;apply pk_t;exact cRa)|(apply qi;exact rfl;apply pk_f;exact cRa)|(apply za;exact rfl;exact rfl)|apply w7|(apply zm;exact rfl;exact rfl)|(apply vu;(iterate 4 exact rfl))|(apply y0;(iterate 3 exact rfl))|(apply qby;(iterate 3 exact rfl);exact cAs)|(apply jr;(iterate 3 exact rfl))|(apply js;(iterate 9 exact rfl))|(apply kh;exact rfl;exact rfl)|(apply yb;(iterate 4 exact rfl);(first|assumption|omega|decide);exact rfl)|(apply vo;(iterate 4 exact rfl);first|assumption|omega|decide))|(apply qg;exact Tryz.call99;exact qkr _ _ hg))
     exact ql rfl (v8 rfl) ⟨rfl,_,rfl⟩
  ·cases d
   all_goals
    rcases x with _ | ⟨t',y⟩
    all_goals
     repeat' (first|(apply qec;first|apply qk|apply qu|apply qc|(apply qa;exact rfl;apply kl;exact cAo)|(apply qa;exact rfl;apply ko;exact cAo)|(apply qa;exact rfl;apply qd8;exact cRa)|(apply qa;exact rfl;apply qe4;exact cRa)|(apply qa;exact rfl;apply cd_n <;> intro h)|(apply qa;exact rfl;apply cd_t;exact cRa)|(apply qa;exact rfl;apply cd_f;exact cRa)|(apply qa;exact rfl;apply cd_d <;> intro h)|(apply qa;exact rfl;apply cd_s <;> intro h)|(apply qc8;exact rfl;kernel_rfl)|apply qs|apply jp|apply qr)|(apply qb3;first|(apply ze;(iterate 4 exact rfl))|(apply vt;(iterate 4 exact rfl)))|(apply qfg;first|(apply yu;exact cAo)|(apply wl;exact cAo)|(apply wq;exact cAo)|(apply yl;exact cAo)|(apply qbw;exact cRa)|(apply ym;exact cRa)|(apply yg;exact cRa)|(apply qaz;exact cRa)|(apply yz <;> intro h)|(apply x6;exact cRa)|(apply qcv;exact cRa)|(apply yh;exact cRa)|(apply xe;exact cRa)|(apply vg <;> intro h)|(apply qai <;> intro h))|(apply qfs;first|apply qdx|(apply qft;(iterate 4 exact rfl))|(apply qih;exact rfl;exact rfl;exact q5 (by omega) (by omega))|(apply qfx;(iterate 4 exact rfl);exact cAs;exact cAs)|(apply qbd;(iterate 5 exact rfl))|(apply qbs;exact rfl;exact rfl;exact cOs)|(apply qa5;(iterate 3 exact rfl))|(apply y7;(iterate 5 exact rfl))|(apply xj;(iterate 4 exact rfl))|(apply xk;(iterate 3 exact rfl))|(apply qgg;(iterate 3 exact rfl);exact cAs)|(apply qen;exact rfl;exact rfl)|(apply qcu;exact rfl;exact rfl)|(apply qct;(iterate 3 exact rfl);omega)|(apply qbp;(iterate 3 exact rfl))|apply qcj|apply qbv|(apply qhz;exact rfl;exact rfl;exact q5 (by omega) (by omega))|(apply qfi;(iterate 3 exact rfl))|(apply qem;(iterate 3 exact rfl);exact cAs)|(apply qew;(iterate 3 exact rfl);exact cAs)|(apply qa4;exact rfl;exact rfl))|(apply qb8;first|(apply qq;(iterate 3 exact rfl))|(apply jb;(iterate 3 exact rfl))|(apply jq;exact rfl;exact rfl;exact cOs)|(apply zv;exact rfl;exact rfl;exact q5 (by omega) (by omega))|(apply xn;exact rfl;exact rfl;exact q5 (by omega) (by omega))|(apply ji;exact rfl;exact rfl)|(apply jj;exact rfl;exact rfl)|(apply wx;exact rfl;exact rfl)|(apply wz;exact rfl;exact rfl)|(apply wh;(iterate 3 exact rfl))|(apply xu;(iterate 3 exact rfl))|(apply yc;exact rfl;exact rfl;(first|exact qv _|exact rfl);first|exact qv _|exact rfl)|(apply y5;exact rfl;exact rfl;(first|exact qv _|exact rfl);first|exact qv _|exact rfl)|(apply qc1;exact rfl;exact rfl;(first|exact qv _|exact rfl);first|exact qv _|exact rfl)|(apply xl;(iterate 3 exact rfl))|(apply ye;(iterate 3 exact rfl)))|(apply qc7;first|(apply zn;(iterate 3 exact rfl))|(apply xv;(iterate 5 exact rfl))|(apply zh;(iterate 5 exact rfl)))|(apply qc2;first|(apply qa8;exact rfl)|(apply jc;exact rfl)|(apply xi;exact rfl))|(apply qb4;first|(apply qaw;(iterate 3 exact rfl);exact cAs)|(apply qas;(iterate 3 exact rfl);exact cAs)|(apply qbr;(iterate 4 exact rfl);exact cAs;exact cAs)|(apply wi;(iterate 4 exact rfl);(first|assumption|omega|exact Nat.succ_le_succ (Nat.zero_le _)|(simp;omega));exact rfl))|(apply qcz;first|(apply jz;(iterate 3 exact rfl))|(apply zl;(iterate 4 exact rfl)))|(apply x5;first|(apply qz;(iterate 3 exact rfl))|(apply vm;(iterate 4 exact rfl)))|(apply qb7;first|(apply ve;(iterate 11 exact rfl))|(apply zf;(iterate 11 exact rfl)))|(apply qed;first|apply qd|apply qj|apply qe|(apply zg;exact rfl;exact rfl)|(apply qi;exact rfl;apply y6;exact cAo)|(apply qi;exact rfl;apply yo;exact cAo)|(apply qi;exact rfl;apply qff;exact cRa)|(apply qi;exact rfl;apply qd5;exact cRa)|(apply qi;exact rfl;apply pk_t;exact cRa)|(apply qi;exact rfl;apply pk_f;exact cRa)|(apply za;exact rfl;exact rfl)|apply w7|(apply zm;exact rfl;exact rfl)|(apply vu;(iterate 4 exact rfl))|(apply y0;(iterate 3 exact rfl))|(apply qby;(iterate 3 exact rfl);exact cAs)|(apply jr;(iterate 3 exact rfl))|(apply js;(iterate 9 exact rfl))|(apply kh;exact rfl;exact rfl)|(apply yb;(iterate 4 exact rfl);(first|assumption|omega|decide);exact rfl)|(apply vo;(iterate 4 exact rfl);first|assumption|omega|decide))|(apply qg;exact Tryz.call99;exact qwh _ _ hg))
     exact ql rfl (v8 rfl) ⟨rfl,_,rfl⟩
def q66 (L:List LnV) (i:Nat) (x:LnV):List Bytes:=x.text::vv ((L.drop (i+1)).map q1m)
theorem qtw:∀ (r:List (Bytes×Bool)),(vv r).length≤r.length
 | []=>by simp [vv]
 |(t,e)::r=>by
  have:=qtw r
  rw [vv]
  split <;> simp <;> omega
theorem qty:∀ {r:List (Bytes×Bool)} {n:Nat},(∀ p∈r,p.1.length≤n)→∀ s∈vv r,s.length≤n
 | [],_,_,s,hs=>by simp [vv] at hs
 |(t,e)::r,n,h,s,hs=>by
  rw [vv] at hs
  split at hs
  ·rcases List.mem_cons.1 hs with rfl|hs
   ·exact h (s,e) (by simp)
   ·exact qty (fun p hp=>h p (by simp [hp])) s hs
  ·simp at hs
structure LnsB (L:List LnV):Prop where
 len:L.length<100000
 val:∀ x∈L,x.text.length<100000
theorem LnsB.said {L:List LnV} (h:LnsB L) {i:Nat} {x:LnV} (hx:L[i]? = some x):LsB (q66 L i x):=by
 have h1:=qtw ((L.drop (i+1)).map q1m)
 have h2:=h.len
 have h3:=h.val x (List.mem_of_getElem? hx)
 refine⟨?_,fun s hs=>?_⟩
 ·unfold q66
  simp at h1 ⊢
  omega
 ·rcases List.mem_cons.1 hs with rfl|hs
  ·omega
  ·have:=qty (n:=100000) (fun p hp=>by
    obtain⟨y,hy,rfl⟩:=List.mem_map.1 hp
    have:=h.val y (List.mem_of_mem_drop hy)
    simp only [q1m]
    omega) s hs
   omega
end Go.Proofs.YtmoklbacdkmkaaaGreatDoor
namespace Go.Pl
open Go Go.Proofs Go.Proofs.YtmoklbacdkmkaaaGreatDoor
theorem q1n (l:Bytes):(q9 l).1=1∨(q9 l).1=2∨(q9 l).1=3:=by
 unfold q9
 split
 ·split
  ·split
   ·unfold qdf
    split <;> simp
   ·split
    ·unfold qad
     split
     ·simp
     ·split <;> simp
    ·simp
  ·simp
 ·split <;> simp
theorem q3c {l:Bytes} (h1:(q9 l).1=1):∃ k:Nat,(q9 l).2.2=(k:Int)∧0<k∧k≤l.length:=by
 obtain⟨_,m,hm,hn⟩:=qhg (show q9 l=(1,(q9 l).2.1,(q9 l).2.2) by rw [← h1])
 refine⟨_,hn,?_,?_⟩
 ·rw [qeu]
  simp [recL,zy,zw]
 ·have:=congrArg List.length hm
  rw [List.length_append] at this
  omega
theorem qlc {l:Bytes}:(q9 l).2.1.length≤l.length:=by
 have hp:=ju 10 l
 unfold q9
 split
 ·split
  ·split
   ·simp
   ·split
    ·unfold qad
     split
     ·simp
     ·split
      ·simp;omega
      ·simp
    ·simp
  ·simp
 ·split <;> simp
theorem qwp (l:Bytes):jg l.length l≤l.length:=(qmc _ _ _ (Nat.le_refl _) (Nat.le_refl _)).2
theorem qz4 {f:Nat} {l:Bytes} {a:Int} {bs:List (List qp)} {es:List Int} (h:(q9 l).1=2):recsF (f+1) l a bs es=(false,bs,es,l):=by
 rw [recsF,if_pos h]
theorem q1s {f:Nat} {l:Bytes} {a:Int} {bs:List (List qp)} {es:List Int} (h:(q9 l).1=3):recsF (f+1) l a bs es=(true,bs,es,l):=by
 rw [recsF,if_neg (by rw [h];decide),if_neg (by rw [h];decide)]
theorem q4x {f:Nat} {l:Bytes} {a:Int} {bs:List (List qp)} {es:List Int} (h:(q9 l).1=1) (hd:decF (q9 l).2.1=none):recsF (f+1) l a bs es=(true,bs,es,l):=by
 rw [recsF,if_neg (by rw [h];decide),if_pos h,hd]
theorem q04 {f k:Nat} {l:Bytes} {a:Int} {bs:List (List qp)} {es:List Int} {b:List qp} (h:(q9 l).1=1) (hd:decF (q9 l).2.1=some b) (hk:(q9 l).2.2=(k:Int)):recsF (f+1) l a bs es=recsF f (l.drop k) (a+k) (bs++[b]) (es++[a+k]):=by
 rw [recsF,if_neg (by rw [h];decide),if_pos h,hd,hk]
 rfl
end Go.Pl
namespace Go.Proofs.YtmoklbacdkmkaaaGreatDoor
open Go Go.Av Go.RowKit Go.Proofs Go.Pl
@[reducible] def qdg (es : List Int) : AV := .sl 1 (es.map fun x => Iv x) none
@[reducible] def qc9 (bs : List (List qp)) : AV := .sl 1 (bs.map jk) none
@[reducible] def qe0 (b : vr) : AV := .ag [Iv b.gen, Sv b.base, qc9 b.batches, qdg b.ends, Sv b.tail]
theorem q3u (l:Bytes) (b:Bool) (st:List AObj) (hl:l.length<4294967281) (h:begF l=b):qn E 101 [Sv l] st fun r st'=>r=Bv b∧st'=st:=by
 subst h
 exact q5h l st hl
theorem q6x (text:Bytes) (st:List AObj) (hl:text.length<1000000):qn E 57 [Sv text] st fun r st'=>r=Iv ((jg text.length text:Nat):Int)∧st'=st:=by
 refine vc [.s text] (q6 _) Tryz.func57 rfl rfl (fun _=>rfl) rfl fun S0=>?_
 apply qh []
 repeat' (first|apply And.intro|(intro h;try exact cDd)|exact⟨Tryz.call100⟩|(refine Exists.intro _ ⟨qgv _,?_⟩)|exact cSd|apply qb []|refine exr ?_|refine qm ?_)
 refine qdh (X:=Int) text 1 2 [0,1] (fun r=>⟨[(0,.s text),(2,.bx 0 0),(5,.fn (.func 163) [] [.bx 1 0])],[(0,some (.cells 3 [.i r])),(1,some (.cells 9 [.s text]))],2⟩) _
  (fun k rest r=>r=0∧rest.length≤text.length∧jg text.length text=jg text.length rest) (fun c r=>c = .ret∧r=((jg text.length text:Nat):Int)) 0 ⟨rfl,by omega,rfl⟩ ?_ id (by omega) (fun _=>rfl) rfl (fun _=>rfl) (fun _=>rfl) rfl ?_ ?_ ?_
 ·skip
  repeat' (first|apply And.intro|(intro h;try exact cDd)|exact cSd|apply qb []|refine exr ?_|refine qm ?_)
 ·rintro k rest r ⟨rfl,hrl,hbeg⟩ hne hle
  have hu:=kf 10 rest
  have hpl:=ju 10 rest
  have hbg:=fun st=>q3u (upto 10 rest) _ st (by omega) rfl
  unfold qi7
  by_cases hb:begF (upto 10 rest)=true
  ·rw [hb] at hbg
   have hv:((text.length:Int) - rest.length)=((jg text.length text:Nat):Int):=by
    rw [hbeg,qfb hne hb]
    omega
   refine RA.mk fun S F ρ rd=>?_
   apply qh []
   repeat' (first|apply And.intro|(intro h;try exact cDd)|(refine RB.mk fun S rd=>?_;apply qh [])|exact⟨Tryz.call101⟩|refine cpe hbg ?_|(refine Exists.intro _ ⟨⟨rfl,hv⟩,?_⟩)|exact cSd|apply qb []|refine exr ?_|refine qm ?_)
  ·have hb':begF (upto 10 rest)=false:=by simpa using hb
   rw [hb'] at hbg
   refine RA.mk fun S F ρ rd=>?_
   apply qh []
   repeat' (first|apply And.intro|(intro h;try exact cDd)|(refine RB.mk fun S rd=>?_;apply qh [])|exact⟨Tryz.call101⟩|refine cpe hbg ?_|(refine Exists.intro 0 ⟨⟨rfl,by omega,by rw [hbeg,qge hne (by rw [hb'];decide)]⟩,?_⟩)|exact cSd|apply qb []|refine exr ?_|refine qm ?_)
 ·rintro k r ⟨rfl,hrl,hbeg⟩
  rw [qa6] at hbeg
  rw [hbeg]
  repeat' (first|apply And.intro|(intro h;try exact cDd)|exact cSd|apply qb []|refine exr ?_|refine qm ?_)
 ·rintro c r ⟨rfl,rfl⟩
  repeat' (first|apply And.intro|(intro h;try exact cDd)|exact cSd|apply qb []|refine exr ?_|refine qm ?_)
theorem qky {a b c:AV} (h1:Pure a) (h2:Pure b) (h3:Pure c):Pure (.tu [a,b,c]):=qes fun z hz=>by
 simp only [List.mem_cons,List.not_mem_nil,or_false] at hz
 rcases hz with rfl|rfl|rfl
 ·exact h1
 ·exact h2
 ·exact h3
theorem qwu (b:List qp):qk3 (jk b):=fun y hy=>by
 simp only [AV.cells,List.mem_cons,List.not_mem_nil,or_false] at hy
 subst hy
 exact qje _
theorem qti (bs:List (List qp)):Pure (qc9 bs):=qdd fun x hx=>by
 obtain⟨b,_,rfl⟩:=List.mem_map.1 hx
 exact qwu b
theorem qe7 (es:List Int):Pure (qdg es):=qdd fun x hx=>by
 obtain⟨b,_,rfl⟩:=List.mem_map.1 hx
 intro y hy
 simp only [AV.cells,List.mem_cons,List.not_mem_nil,or_false] at hy
 subst hy
 exact q6 _
theorem qkt (b:vr):Pure (qe0 b):=qms fun x hx=>by
 simp only [List.mem_cons,List.not_mem_nil,or_false] at hx
 rcases hx with rfl|rfl|rfl|rfl|rfl
 ·exact q6 _
 ·exact q6 _
 ·exact qti _
 ·exact qe7 _
 ·exact q6 _
def qmb (x:ErrV×vr):AV:=.tu [qe0 x.2,errA x.1]
theorem qxz (x:ErrV×vr):Pure (qmb x):=va (qkt _) (vj _)
theorem qyc (text:Bytes) (st:List AObj) (hl:60000<text.length) (h2:text.length<1000000):qn E 58 [Sv text] st fun r st'=>r = .tu [qce [],errA (.num 1)]∧st'=st:=by
 refine vc [.s text] (va (qnm _) (vj _)) Tryz.func58 rfl rfl (fun _=>rfl) rfl fun S0=>?_
 apply qh []
 repeat' (first|apply And.intro|(intro h;try exact cDd)|exact cSd|apply qb []|refine exr ?_|refine qm ?_)
def itsE (text:Bytes):List j6:=if 60000<text.length then [] else (j8 text).2
theorem qsb (text:Bytes) (st:List AObj) (hl:text.length<1000000):qn E 58 [Sv text] st fun r st'=>r = .tu [qce (itsE text),errA (xx text)]∧st'=st:=by
 unfold xx itsE
 by_cases hb:60000<text.length
 ·rw [if_pos hb,if_pos hb]
  exact qyc text st hb hl
 ·rw [if_neg hb,if_neg hb]
  have:=qoi text st (by omega)
  unfold qcy at this
  rcases hp:(j8 text).1 with _ | ⟨x,y⟩
  ·rw [hp] at this
   exact this
  ·rw [hp] at this
   exact this
theorem qwl (gen:Int) (base text:Bytes) (a:Nat) (hl:text.length<1000000) (ha:a≤text.length) (r:SV) (hp1:List (Nat×Option SR)) (nx1:Nat) (R:Bool×List (List qp)×List Int×Bytes) (hR:Go.Pl.recsF (text.length+1) (text.drop a) a [] []=R)
  (hok:R.1=false→r = .a (.v .nilIface)∧hp1=[(0,some (.cells 26 [.i gen,.s base,.tp 1,.tp 2,.s R.2.2.2])),(1,some (.tip 1 55 (R.2.1.map jk))),(2,some (.tip 1 3 (R.2.2.1.map fun x=>Iv x)))]∧nx1=3)
  (hbad:R.1=true→r = .a (errA (.at' R.2.1.length 10))∧hp1=[]∧nx1=1):ku E 59 [.bx 0 0,.s text,.i a] 1 (hpF [(0,some (.cells 26 [.i gen,.s base,.a zp,.a zp,.s []]))]) ⟨r,vl [(0,some (.cells 26 [.i gen,.s base,.a zp,.a zp,.s []]))],hp1++vw [(0,some (.cells 26 [.i gen,.s base,.a zp,.a zp,.s []]))],nx1⟩:=by
 refine xq [.bx 0 0,.s text,.i a] [(0,some (.cells 26 [.i gen,.s base,.a zp,.a zp,.s []]))] 1 r hp1 nx1 Tryz.func59 rfl rfl rfl ?_ fun S F ρ=>?_
 ·cases h:R.1 with
  |false=>obtain⟨rfl,rfl,rfl⟩:=hok h;rfl
  |true=>obtain⟨rfl,rfl,rfl⟩:=hbad h;rfl
 apply qh []
 repeat' (first|apply And.intro|(intro h;try exact cDd)|exact cSd|apply qb []|refine exr ?_|refine qm ?_)
 refine yt (X:=Nat×Nat×List (List qp)×List Int) (fun (k,f,bs,es)=>⟨[(0,.bx 0 0),(1,.s text),(2,.i k)],[(0,some (.cells 26 [.i gen,.s base,.tp 1,.tp 2,.s []])),(1,some (.tip 1 55 (bs.map jk))),(2,some (.tip 1 3 (es.map fun x=>Iv x)))],3⟩)
  (fun (k,f,bs,es)=>k≤text.length∧text.length - k<f∧Go.Pl.recsF f (text.drop k) k bs es=R∧bs.length≤k∧es.length≤k) (fun x=>text.length - x.1) (a,text.length+1,[],[]) ⟨ha,by omega,hR,by simp,by simp⟩ ?_ ?_
 ·skip
  repeat' (first|apply And.intro|(intro h;try exact cDd)|exact cSd|apply qb []|refine exr ?_|refine qm ?_)
 ·rintro⟨k,f,bs,es⟩ ⟨hk,hf,hR,hbl,hel⟩
  obtain⟨f,rfl⟩:∃ f',f=f'+1:=⟨f - 1,by omega⟩
  have hrd:=fun st=>q4h (text.drop k) st (by simp;omega)
  have hll:(text.drop k).length=text.length - k:=by simp
  have hbd:=qlc (l:=text.drop k)
  have hde:=fun st=>qvq (q9 (text.drop k)).2.1 st (by omega)
  rcases q1n (text.drop k) with h1|h2|h3
  ·rw [h1] at hrd
   obtain⟨n',hn',hn0',hnl⟩:=q3c h1
   cases hdd:decF (q9 (text.drop k)).2.1 with
   |none=>
    rw [q4x h1 hdd] at hR
    rw [hdd] at hde
    subst hR
    obtain⟨rfl,rfl,rfl⟩:=hbad rfl
    apply qh []
    repeat' (first|apply And.intro|(intro h;try exact cDd)|exact⟨Tryz.call104⟩|refine cpe hrd ?_|exact⟨Tryz.call105⟩|refine cpe hde ?_|exact cSd|apply qb []|refine exr ?_|refine qm ?_)
    rw [List.length_map]
    rfl
   |some b=>
    rw [q04 h1 hdd hn'] at hR
    rw [hdd] at hde
    rw [hn'] at hrd
    apply qh []
    repeat' (first|apply And.intro|(intro h;try exact cDd)|exact⟨Tryz.call104⟩|refine cpe hrd ?_|exact⟨Tryz.call105⟩|refine cpe hde ?_|(refine Exists.intro (k+n',f,bs++[b],es++[((k+n':Nat):Int)]) ⟨?_,by simp only;omega,?_⟩)|exact cSd|apply qb []|refine exr ?_|refine qm ?_)
    all_goals first|(rw [← hR,Int.natCast_add,List.drop_drop];done)|(simp;done)
  ·rw [h2] at hrd
   rw [qz4 h2] at hR
   subst hR
   obtain⟨rfl,rfl,rfl⟩:=hok rfl
   cases hdd:decF (q9 (text.drop k)).2.1 <;> rw [hdd] at hde
   all_goals
    apply qh []
    repeat' (first|apply And.intro|(intro h;try exact cDd)|exact⟨Tryz.call104⟩|refine cpe hrd ?_|exact⟨Tryz.call105⟩|refine cpe hde ?_|exact cSd|apply qb []|refine exr ?_|refine qm ?_)
  ·rw [h3] at hrd
   rw [q1s h3] at hR
   subst hR
   obtain⟨rfl,rfl,rfl⟩:=hbad rfl
   cases hdd:decF (q9 (text.drop k)).2.1 <;> rw [hdd] at hde
   all_goals
    apply qh []
    repeat' (first|apply And.intro|(intro h;try exact cDd)|exact⟨Tryz.call104⟩|refine cpe hrd ?_|exact⟨Tryz.call105⟩|refine cpe hde ?_|exact cSd|apply qb []|refine exr ?_|refine qm ?_)
   all_goals
    rw [List.length_map]
    rfl
theorem qy4 (text:Bytes) (st:List AObj) (hl:text.length<1000000):qn E 19 [Sv text] st fun r st'=>r=qmb (jt text)∧st'=st:=by
 refine vc [.s text] (qxz _) Tryz.func19 rfl rfl (fun _=>rfl) rfl fun S0=>?_
 by_cases hbig:120000<text.length
 ·have e:jt text=(.num 1,qe9):=if_pos hbig
  rw [e]
  apply qh []
  repeat' (first|apply And.intro|(intro h;try exact cDd)|exact cSd|apply qb []|refine exr ?_|refine qm ?_)
 have hsp:=qdr text
 have hrl:(vf text).2.length≤text.length:=by
  conv=>rhs;rw [hsp.1]
  simp
 have hbl:=qwp (vf text).2
 obtain⟨g,rest,htk⟩:∃ g rest,vf text=(g,rest):=⟨_,_,rfl⟩
 have hF:jt text=match xx (rest.take (jg rest.length rest)) with
   | .no=>if (Go.Pl.recsF (text.length+1) (rest.drop (jg rest.length rest)) (((text.length - rest.length+jg rest.length rest:Nat)):Int) [] []).1=true then (.at' (Go.Pl.recsF (text.length+1) (rest.drop (jg rest.length rest)) (((text.length - rest.length+jg rest.length rest:Nat)):Int) [] []).2.1.length 10,qe9)
    else (.no,⟨g,rest.take (jg rest.length rest),(Go.Pl.recsF (text.length+1) (rest.drop (jg rest.length rest)) (((text.length - rest.length+jg rest.length rest:Nat)):Int) [] []).2.1,(Go.Pl.recsF (text.length+1) (rest.drop (jg rest.length rest)) (((text.length - rest.length+jg rest.length rest:Nat)):Int) [] []).2.2.1,(Go.Pl.recsF (text.length+1) (rest.drop (jg rest.length rest)) (((text.length - rest.length+jg rest.length rest:Nat)):Int) [] []).2.2.2⟩)
   |e=>(e,qe9):=by
  unfold jt
  rw [if_neg hbig]
  unfold qbg wc atH kg
  rw [htk]
  try rfl
 have htk2:∀ st,qn E 56 [Sv text] st fun r st'=>r = .tu [Iv g,Sv rest]∧st'=st:=fun st=>by
  have:=qzi text st hl
  rw [htk] at this
  exact this
 rw [htk] at hrl hbl hsp
 simp only at hrl hbl hsp
 have hdr:rest.drop (jg rest.length rest)=text.drop (text.length - rest.length+jg rest.length rest):=by
  have h1:text.length=(j5 g).length+rest.length:=by
   have:=congrArg List.length hsp.1
   simpa using this
  conv=>rhs;rhs;rw [hsp.1]
  rw [← List.drop_drop,show text.length - rest.length=(j5 g).length by omega,List.drop_left]
 rw [hdr] at hF
 clear hdr hsp htk
 have hbg:=fun st=>q6x rest st (by omega)
 generalize jg rest.length rest=a at hF hbl hbg
 have hpa:=fun st=>qsb (rest.take a) st (by simp;omega)
 have hsub:((text.length:Int) - (rest.length:Int))+(a:Int)=((text.length - rest.length+a:Nat):Int):=by omega
 rw [show (((text.length - rest.length+a:Nat)):Int)=(((text.length - rest.length+a:Nat)):Int) from rfl] at hF
 obtain⟨R,hR⟩:∃ R,Go.Pl.recsF (text.length+1) (text.drop (text.length - rest.length+a)) ((text.length - rest.length+a:Nat):Int) [] []=R:=⟨_,rfl⟩
 rw [hR] at hF
 have hok:=fun h=>qwl g (rest.take a) text (text.length - rest.length+a) hl (by omega) (.a (.v .nilIface)) [(0,some (.cells 26 [.i g,.s (rest.take a),.tp 1,.tp 2,.s R.2.2.2])),(1,some (.tip 1 55 (R.2.1.map jk))),(2,some (.tip 1 3 (R.2.2.1.map fun x=>Iv x)))] 3 R hR (fun _=>⟨rfl,rfl,rfl⟩) h
 have hbad:=fun h=>qwl g (rest.take a) text (text.length - rest.length+a) hl (by omega) (.a (errA (.at' R.2.1.length 10))) [] 1 R hR h (fun _=>⟨rfl,rfl,rfl⟩)
 generalize itsE (rest.take a)=its at hpa
 cases hpe:xx (rest.take a) with
 |no=>
  rw [hpe] at hF hpa
  simp only at hF
  by_cases hR1:R.1=true
  ·rw [if_pos hR1] at hF
   rw [hF]
   apply qh []
   repeat' (first|apply And.intro|(intro h;try exact cDd)|exact⟨Tryz.call56⟩|refine cpe htk2 ?_|exact⟨Tryz.call57⟩|refine cpe hbg ?_|exact⟨Tryz.call58⟩|refine cpe hpa ?_|exact⟨Tryz.call59⟩|(refine jh (hbad fun h=>by rw [hR1] at h;simp at h) ?_)|exact cSd|apply qb []|refine exr ?_|refine qm ?_)
   all_goals exact congrArg Iv hsub
  ·rw [if_neg hR1] at hF
   rw [hF]
   apply qh []
   repeat' (first|apply And.intro|(intro h;try exact cDd)|exact⟨Tryz.call56⟩|refine cpe htk2 ?_|exact⟨Tryz.call57⟩|refine cpe hbg ?_|exact⟨Tryz.call58⟩|refine cpe hpa ?_|exact⟨Tryz.call59⟩|(refine jh (hok fun h=>absurd h hR1) ?_)|exact cSd|apply qb []|refine exr ?_|refine qm ?_)
   all_goals exact congrArg Iv hsub
 |num n=>
  rw [hpe] at hF hpa
  have hF2:jt text=(.num n,qe9):=hF
  rw [hF2]
  apply qh []
  repeat' (first|apply And.intro|(intro h;try exact cDd)|exact⟨Tryz.call56⟩|refine cpe htk2 ?_|exact⟨Tryz.call57⟩|refine cpe hbg ?_|exact⟨Tryz.call58⟩|refine cpe hpa ?_|exact cSd|apply qb []|refine exr ?_|refine qm ?_)
 |at' p n=>
  rw [hpe] at hF hpa
  have hF2:jt text=(.at' p n,qe9):=hF
  rw [hF2]
  apply qh []
  repeat' (first|apply And.intro|(intro h;try exact cDd)|exact⟨Tryz.call56⟩|refine cpe htk2 ?_|exact⟨Tryz.call57⟩|refine cpe hbg ?_|exact⟨Tryz.call58⟩|refine cpe hpa ?_|exact cSd|apply qb []|refine exr ?_|refine qm ?_)
theorem q6i (n:Int):(j5 n).length≤100:=by
 unfold j5
 split
 ·rename_i h
  have:=qsf h
  omega
 ·simp
theorem qua (b:vr) (st:List AObj) (hb:b.base.length<1000000) (he:b.ends.length<1000000):qn E 29 [qe0 b] st fun r st'=>r=Iv (qa0 b)∧st'=st:=by
 have hh:=q6i b.gen
 have hle:=fun st=>q30 b.gen st
 refine vc [.a (qe0 b)] (q6 _) Tryz.func29 rfl rfl (fun _=>rfl) rfl fun S0=>?_
 by_cases h0:b.ends=[]
 ·have e:qa0 b=((j5 b.gen).length:Int)+(b.base.length:Int):=by simp [qa0,h0]
  rw [e]
  have hl0:(b.ends.map fun x=>Iv x).length=0:=by simp [h0]
  apply qh []
  repeat' (first|apply And.intro|(intro h;try exact cDd)|exact⟨Tryz.call77⟩|refine cpe hle ?_|exact cSd|apply qb []|refine exr ?_|refine qm ?_)
 ·obtain⟨x,hx⟩:∃ x,b.ends.getLast? = some x:=by
   cases h:b.ends.getLast? with
   |none=>exact absurd (List.getLast?_eq_none_iff.1 h) h0
   |some x=>exact⟨x,rfl⟩
  have e:qa0 b=x:=by simp [qa0,hx]
  rw [e]
  have hl0:0<b.ends.length:=List.length_pos_iff.2 h0
  have hml:(b.ends.map fun x=>Iv x).length=b.ends.length:=by simp
  have hg:(b.ends.map fun x=>Iv x)[b.ends.length - 1]? = some (Iv x):=by
   rw [List.getLast?_eq_getElem?] at hx
   simp [hx]
  apply qh []
  repeat' (first|apply And.intro|(intro h;try exact cDd)|exact⟨Tryz.call77⟩|refine cpe hle ?_|(refine Exists.intro (b.ends.length - 1) ⟨by omega,_,hg,?_⟩)|exact cSd|apply qb []|refine exr ?_|refine qm ?_)
theorem qr3:∀ r:List (List qp),r.length≤(zo r).length
 | []=>by simp [zo]
 |b::r=>by
  have:=qr3 r
  have h1:=qko b
  rw [km]
  simp
  omega
structure zaw (text:Bytes) (b:vr):Prop where
 base:b.base.length<1000000
 tail:b.tail.length<1000000
 ends : b.ends.length < 1000000
 whole:qa0 b=((zi b).length:Int)
 wlen:(zi b).length≤text.length
 size:qa0 b+b.tail.length=text.length
theorem qnd {text:Bytes} {b:vr} (h:xm text b):zaw text b:=by
 have h1:=congrArg List.length h.split
 have h2:=h.len
 have h3:=qr3 b.batches
 have h4:=h.whole
 simp only [List.length_append,zi] at h1
 refine⟨by omega,by omega,by rw [h.ends,qlj];omega,h4,by simp only [zi,List.length_append];omega,?_⟩
 rw [h4]
 simp only [zi,List.length_append]
 omega
theorem qv4 (text:Bytes) (x:List qp) (st:List AObj) (hl:text.length<1000000) (hB:∀ y∈x,EdB y) (hx:x.length<1000000):qn E 28 [Sv text,jk x] st fun r st'=>r = .tu [Sv (Go.Pl.appF text x).2,errA (Go.Pl.appF text x).1]∧st'=st:=by
 refine vc [.s text,.a (jk x)] (va (q6 _) (vj _)) Tryz.func28 rfl rfl (fun _=>rfl) rfl fun S0=>?_
 have hbr:=fun st=>qy4 text st hl
 unfold Go.Pl.appF
 have hbk:jt text=((jt text).1,(jt text).2):=rfl
 cases hbe:(jt text).1 with
 |no=>
  rw [hbe] at hbk
  have hT:=qk1 hbk
  have hS:=qnd hT
  obtain⟨hs1,hs2,hs3,hs4,hs5,hs6⟩:=hS
  rw [hbk] at hbr
  generalize (jt text).2=b at hbr hT hs1 hs2 hs3 hs4 hs5 hs6
  unfold qmb at hbr
  have hwh:=fun st=>qua b st hs1 hs3
  rw [hs4] at hwh
  simp only [hs4,Int.toNat_natCast]
  have htl:=hT.len
  cases hee:eErr x with
  |no=>
   have hen:=fun st=>qr1 x st hB hee
   by_cases h5:50000<(encF x).length
   ·simp only [if_pos h5]
    apply qh []
    repeat' (first|apply And.intro|(intro h;try exact cDd)|exact⟨Tryz.call19⟩|refine cpe hbr ?_|exact⟨Tryz.call75⟩|refine cpe hen ?_|exact cSd|apply qb []|refine exr ?_|refine qm ?_)
   ·simp only [if_neg h5]
    have hgx:qal x:=⟨hee,hB,by omega⟩
    have hrc:=fun st=>q17 (encF x) st (by omega) hgx.good
    have hrl:=q0f hgx.good
    have hre:recF (encF x)=recE x:=rfl
    rw [hre] at hrc hrl
    by_cases h12:(120000:Int)<((zi b).length:Int)+((recE x).length:Int)
    ·rw [if_pos h12]
     apply qh []
     repeat' (first|apply And.intro|(intro h;try exact cDd)|exact⟨Tryz.call19⟩|refine cpe hbr ?_|exact⟨Tryz.call75⟩|refine cpe hen ?_|exact⟨Tryz.call76⟩|refine cpe hrc ?_|exact⟨Tryz.call29⟩|refine cpe hwh ?_|exact cSd|apply qb []|refine exr ?_|refine qm ?_)
    ·rw [if_neg h12]
     apply qh []
     repeat' (first|apply And.intro|(intro h;try exact cDd)|exact⟨Tryz.call19⟩|refine cpe hbr ?_|exact⟨Tryz.call75⟩|refine cpe hen ?_|exact⟨Tryz.call76⟩|refine cpe hrc ?_|exact⟨Tryz.call29⟩|refine cpe hwh ?_|exact cSd|apply qb []|refine exr ?_|refine qm ?_)
  |num n=>
   have hen:=fun st=>qio x st _ hB (by omega) hee (fun h=>by have:=(qi5 x).1 (by rw [hee];exact h);rw [hee] at this;simp at this)
   apply qh []
   repeat' (first|apply And.intro|(intro h;try exact cDd)|exact⟨Tryz.call19⟩|refine cpe hbr ?_|exact⟨Tryz.call75⟩|refine cpe hen ?_|exact cSd|apply qb []|refine exr ?_|refine qm ?_)
  |at' p n=>
   have hen:=fun st=>qio x st _ hB (by omega) hee (fun h=>by have:=(qi5 x).1 (by rw [hee];exact h);rw [hee] at this;simp at this)
   apply qh []
   repeat' (first|apply And.intro|(intro h;try exact cDd)|exact⟨Tryz.call19⟩|refine cpe hbr ?_|exact⟨Tryz.call75⟩|refine cpe hen ?_|exact cSd|apply qb []|refine exr ?_|refine qm ?_)
 |num n=>
  rw [hbe] at hbk
  rw [hbk] at hbr
  unfold qmb at hbr
  apply qh []
  repeat' (first|apply And.intro|(intro h;try exact cDd)|exact⟨Tryz.call19⟩|refine cpe hbr ?_|exact cSd|apply qb []|refine exr ?_|refine qm ?_)
 |at' p n=>
  rw [hbe] at hbk
  rw [hbk] at hbr
  unfold qmb at hbr
  apply qh []
  repeat' (first|apply And.intro|(intro h;try exact cDd)|exact⟨Tryz.call19⟩|refine cpe hbr ?_|exact cSd|apply qb []|refine exr ?_|refine qm ?_)
def qg9:List Fld→Int→Int→Bool
 | [],_,_=>false
 |f::r,i,n=>if 60<i∨6000<n+(min (f.1.length:Int) 10000+min (f.2.length:Int) 10000) then true else qg9 r (i+1) (n+(min (f.1.length:Int) 10000+min (f.2.length:Int) 10000))
def qdu:List qp→Int→Bool
 | [],_=>false
 |x::r,i=>if 50<i then true else if qg9 x.fields 0 0=true then true else qdu r (i+1)
theorem qo9:∀ (fs:List Fld) (i n:Int),0≤n→n≤6000→0≤i→qg9 fs i n=false→fs.length≤(61 - i).toNat∧∀ f∈fs,f.1.length≤6000∧f.2.length≤6000
 | [],i,n,_,_,_,_=>by simp
 |f::r,i,n,h0,h1,h2,h=>by
  rw [qg9] at h
  split at h
  ·simp at h
  ·obtain⟨g1,g2⟩:=qo9 r _ _ (by omega) (by omega) (by omega) h
   simp only [List.length_cons]
   refine⟨by omega,fun g hg=>?_⟩
   rcases List.mem_cons.1 hg with rfl|hg
   ·omega
   ·exact g2 g hg
theorem qmz:∀ (b:List qp) (i:Int),0≤i→qdu b i=false→b.length≤(51 - i).toNat∧∀ x∈b,q7a x.fields
 | [],_,_,_=>by simp
 |x::r,i,h0,h=>by
  rw [qdu] at h
  split at h
  ·simp at h
  ·split at h
   ·simp at h
   ·rename_i hm
    obtain⟨g1,g2⟩:=qmz r _ (by omega) h
    simp only [List.length_cons]
    refine⟨by omega,fun y hy=>?_⟩
    rcases List.mem_cons.1 hy with rfl|hy
    ·obtain⟨k1,k2⟩:=qo9 y.fields 0 0 (by omega) (by omega) (by omega) (by simpa using hm)
     exact⟨by omega,fun f hf=>by have:=k2 f hf;omega⟩
    ·exact g2 y hy
theorem qtu {b:List qp} (h:qdu b 0=false):q3e b:=by
 obtain⟨h1,h2⟩:=qmz b 0 (by omega) h
 exact⟨by omega,h2⟩
theorem q8q (fs:List Fld) (st:List AObj) (hf:fs.length<9223372036854775808):qn E 70 [kv fs] st fun r st'=>r=Bv (qg9 fs 0 0)∧st'=st:=by
 refine vc [.a (kv fs)] (q6 _) Tryz.func70 rfl rfl (fun _=>rfl) rfl fun S0=>?_
 have hm:(fs.map fldA).length=fs.length:=by simp
 apply qh []
 repeat' (first|apply And.intro|(intro h;try exact cDd)|exact cSd|apply qb []|refine exr ?_|refine qm ?_)
 refine yt (X:=Nat×Int) (fun (k,n)=>⟨[(3,.i n),(6,.a (kv fs)),(7,.i fs.length),(8,.i k)],[],0⟩) (fun (k,n)=>k≤fs.length∧k≤61∧0≤n∧n≤6000∧qg9 (fs.drop k) k n=qg9 fs 0 0) (fun x=>fs.length - x.1) (0,0) ⟨by omega,by omega,by omega,by omega,rfl⟩ ?_ ?_
 ·skip
  repeat' (first|apply And.intro|(intro h;try exact cDd)|exact cSd|apply qb []|refine exr ?_|refine qm ?_)
  all_goals first|(simp;done)
 ·rintro⟨k,n⟩ ⟨hk,hk2,h0,h1,h⟩
  by_cases hc:k<fs.length
  ·obtain⟨f,hx⟩:∃ f,fs[k]? = some f:=⟨_,List.getElem?_eq_getElem hc⟩
   have hg:(fs.map fldA)[k]? = some (fldA f):=by simp [hx]
   have hd:fs.drop k=f::fs.drop (k+1):=by
    obtain⟨hlt,e⟩:=List.getElem?_eq_some_iff.1 hx
    rw [List.drop_eq_getElem_cons hlt,e]
   rw [hd,qg9] at h
   apply qh []
   repeat' (first|apply And.intro|(intro h;try exact cDd)|(refine Exists.intro (k) ⟨by omega,_,hg,?_⟩)|(refine Exists.intro (k+1,n+(min (f.1.length:Int) 10000+min (f.2.length:Int) 10000)) ⟨⟨by omega,by omega,by omega,by omega,?_⟩,by simp only;omega,?_⟩)|exact cSd|apply qb []|refine exr ?_|refine qm ?_)
   all_goals first|grind|(simp;done)
  ·have hd:fs.drop k=[]:=List.drop_eq_nil_of_le (by omega)
   rw [hd,qg9] at h
   apply qh []
   repeat' (first|apply And.intro|(intro h;try exact cDd)|exact cSd|apply qb []|refine exr ?_|refine qm ?_)
   all_goals first|grind|(simp [*];done)
theorem q5j (b:List qp) (st:List AObj) (hb:b.length<9223372036854775808) (hf:∀ x∈b,x.fields.length<9223372036854775808):qn E 26 [jk b] st fun r st'=>r=Bv (qdu b 0)∧st'=st:=by
 refine vc [.a (jk b)] (q6 _) Tryz.func26 rfl rfl (fun _=>rfl) rfl fun S0=>?_
 have hm:(b.map wy).length=b.length:=by simp
 apply qh []
 repeat' (first|apply And.intro|(intro h;try exact cDd)|exact cSd|apply qb []|refine exr ?_|refine qm ?_)
 refine yt (X:=Nat) (fun k=>⟨[(5,.a (jk b)),(6,.i b.length),(7,.i k)],[],0⟩) (fun k=>k≤b.length∧k≤51∧qdu (b.drop k) k=qdu b 0) (fun x=>b.length - x) 0 ⟨by omega,by omega,rfl⟩ ?_ ?_
 ·skip
  repeat' (first|apply And.intro|(intro h;try exact cDd)|exact cSd|apply qb []|refine exr ?_|refine qm ?_)
  all_goals first|(simp;done)
 ·rintro k ⟨hk,hk2,h⟩
  by_cases hc:k<b.length
  ·obtain⟨x,hx⟩:∃ x,b[k]? = some x:=⟨_,List.getElem?_eq_getElem hc⟩
   have hg:(b.map wy)[k]? = some (wy x):=by simp [hx]
   have hd:b.drop k=x::b.drop (k+1):=by
    obtain⟨hlt,e⟩:=List.getElem?_eq_some_iff.1 hx
    rw [List.drop_eq_getElem_cons hlt,e]
   rw [hd,qdu] at h
   have hmu:=fun st=>q8q x.fields st (hf x (List.mem_of_getElem? hx))
   apply qh []
   repeat' (first|apply And.intro|(intro h;try exact cDd)|exact⟨Tryz.call70⟩|refine cpe hmu ?_|(refine Exists.intro (k) ⟨by omega,_,hg,?_⟩)|(refine Exists.intro (k+1) ⟨⟨by omega,by omega,?_⟩,by omega,?_⟩)|exact cSd|apply qb []|refine exr ?_|refine qm ?_)
   all_goals first|grind|(simp;done)
  ·have hd:b.drop k=[]:=List.drop_eq_nil_of_le (by omega)
   rw [hd,qdu] at h
   apply qh []
   repeat' (first|apply And.intro|(intro h;try exact cDd)|exact cSd|apply qb []|refine exr ?_|refine qm ?_)
   all_goals first|grind|(simp [*];done)
theorem q7s (cut:Int) (d:Int) (h1:0<d) (h2:d<4611686018427387904):∃ m:Nat,(IntKind.wrap .u64 cut).tmod (IntKind.wrap .u64 d)=(m:Int)∧(m:Int)<d∧IntKind.wrap .u64 d≠0:=by
 have e:IntKind.wrap .u64 d=d:=by simp [IntKind.wrap,IntKind.bits,IntKind.signed];omega
 have e2:0≤IntKind.wrap .u64 cut:=by simp [IntKind.wrap,IntKind.bits,IntKind.signed];omega
 rw [e]
 have h3:=Int.tmod_lt_of_pos (IntKind.wrap .u64 cut) h1
 have h4:=Int.tmod_nonneg d e2
 exact⟨_,(Int.toNat_of_nonneg h4).symm,by omega,by omega⟩
end Go.Proofs.YtmoklbacdkmkaaaGreatDoor
namespace Go.Pl
open Go Go.Proofs
structure EntV where
 x:j6
 id:Int
structure zx where
 ents:List EntV
 next:Int
 many:Int
def qjy (l:zx) (x:j6):zx:=if x.kind=3 then⟨l.ents++[⟨x,l.next⟩],l.next+1,l.many+1⟩ else⟨l.ents++[⟨x,0⟩],l.next,l.many⟩
def ofF (its:List j6):zx:=its.foldl qjy ⟨[],1,0⟩
end Go.Pl
namespace Go.Proofs.YtmoklbacdkmkaaaGreatDoor
open Go Go.Av Go.RowKit Go.Proofs Go.Pl
@[reducible] def entA (e : EntV) : AV := .ag [Iv e.x.kind, Sv e.x.raw, kv e.x.fields, Iv e.id]
@[reducible] def qar (l : zx) : AV := .pp [.sl 4 (l.ents.map entA) none, Iv l.next, Iv l.many]
def qlx (e:ErrV) (l:zx):AV:=match e with
 | .no=>.tu [qar l,errA .no]
 |e=>.tu [.v (.pointer none),errA e]
theorem q07 (e:EntV):qk3 (entA e):=fun y hy=>by
 simp only [AV.cells,List.mem_cons,List.not_mem_nil,or_false] at hy
 rcases hy with rfl|rfl|rfl|rfl
 ·exact q6 _
 ·exact q6 _
 ·exact qdk _
 ·exact q6 _
theorem qgy (l:zx):Pure (qar l):=qrq fun x hx=>by
 simp only [List.mem_cons,List.not_mem_nil,or_false] at hx
 rcases hx with rfl|rfl|rfl
 ·exact qdd fun x hx=>by
   obtain⟨f,_,rfl⟩:=List.mem_map.1 hx
   exact q07 f
 ·exact q6 _
 ·exact q6 _
theorem qjj (e:ErrV) (l:zx):Pure (qlx e l):=by
 cases e with
 |no=>exact va (qgy l) (vj _)
 |num n=>exact va (q6 _) (vj _)
 |at' a n=>exact va (q6 _) (vj _)
theorem qhf:∀ (n:Nat) (rest:Bytes) (k:Nat) (p:PSt),rest.length≤n→PB (4 * k) p→k+rest.length≤60000→(runL k (zr rest) p).2.items.length≤300000:=by
 have nil:∀ (k:Nat) (p:PSt),PB (4 * k) p→k≤60000→(runL k (zr []) p).2.items.length≤300000:=fun k p hB hk=>by
  have e:je p 0 [] true 1=endP p:=rfl
  have h:=qiu (no:=0) (text:=[]) (ended:=true) (kind:=1) hB (by omega) (by simp)
  rw [e] at h
  have e2:runL k (zr []) p=endP p:=by rw [wg];rfl
  rw [e2]
  have:=h.items
  omega
 intro n
 induction n with
 |zero=>
  intro rest k p hr hB hk
  obtain rfl:rest=[]:=List.eq_nil_of_length_eq_zero (by omega)
  exact nil k p hB (by simpa using hk)
 |succ n ih=>
  intro rest k p hr hB hk
  by_cases hne:rest=[]
  ·subst hne
   exact nil k p hB (by simpa using hk)
  ·have hu:=kf 10 rest
   have hpl:=ju 10 rest
   have hr0:0<rest.length:=List.length_pos_iff.2 hne
   rw [we hne]
   simp only [runL]
   have hB2:=qws (no:=k) (text:=upto 10 rest) (ended:=decide (10∈rest)) hB (by omega) (by omega)
   split
   ·have:=hB.items
    simp only
    omega
   ·exact ih (past 10 rest) (k+1) _ (by omega) hB2 (by omega)
theorem qur (text:Bytes):(itsE text).length≤300000:=by
 unfold itsE
 split
 ·simp
 ·have h:=qhf text.length text 0 p0 (Nat.le_refl _) q7i (by omega)
  unfold j8
  split
  ·simp
  ·exact h
theorem qwq (text:Bytes) (st:List AObj) (hl:text.length<1000000):qn E 87 [Sv text] st fun r st'=>r=qlx (xx text) (ofF (itsE text))∧st'=st:=by
 refine qol [.s text] (qjj _ _) Tryz.func87 rfl rfl (fun _=>rfl) rfl fun S0=>?_
 have hp:=fun st=>qsb text st hl
 have hil:=qur text
 generalize itsE text=its at hp hil
 cases he:xx text with
 |num n=>
  rw [he] at hp
  apply qh [19]
  repeat' (first|apply And.intro|(intro h;try exact cDd)|exact⟨Tryz.call58⟩|refine cpe hp ?_|exact cSd|apply qb [19]|refine exr ?_|refine qm ?_)
 |at' a n=>
  rw [he] at hp
  apply qh [19]
  repeat' (first|apply And.intro|(intro h;try exact cDd)|exact⟨Tryz.call58⟩|refine cpe hp ?_|exact cSd|apply qb [19]|refine exr ?_|refine qm ?_)
 |no=>
  rw [he] at hp
  apply qh [19]
  repeat' (first|apply And.intro|(intro h;try exact cDd)|exact⟨Tryz.call58⟩|refine cpe hp ?_|exact cSd|apply qb [19]|refine exr ?_|refine qm ?_)
  refine yt (X:=Nat×zx) (fun (k,l)=>⟨[(6,.bx 0 0),(20,.a (qce its)),(21,.i its.length),(22,.i k)],[(0,some (.cells 112 [.tp 1,.i l.next,.i l.many])),(1,some (.tip 4 139 (l.ents.map entA)))],2⟩)
   (fun (k,l)=>k≤its.length∧l.ents.length=k∧(1≤l.next∧l.next≤k+1∧0≤l.many∧l.many≤k)∧(its.drop k).foldl qjy l=ofF its) (fun (k,l)=>its.length - k) (0,⟨[],1,0⟩) ⟨by omega,rfl,⟨by decide,by decide,by decide,by decide⟩,rfl⟩ ?_ ?_
  ·skip
   repeat' (first|apply And.intro|(intro h;try exact cDd)|exact cSd|apply qb []|refine exr ?_|refine qm ?_)
   all_goals (simp;done)
  ·rintro⟨k,l⟩ ⟨hk,hlk,hnx,hrun⟩
   by_cases hkn:k<its.length
   ·have hx:its[k]? = some its[k]:=List.getElem?_eq_getElem hkn
    have hxm:(its.map yy)[k]? = some (yy its[k]):=by rw [List.getElem?_map,hx];rfl
    rw [List.drop_eq_getElem_cons hkn,List.foldl_cons] at hrun
    have hml:(l.ents.map entA).length=l.ents.length:=by simp
    generalize its[k]=x at hx hxm hrun
    by_cases hk3:x.kind=3
    ·have e:qjy l x=⟨l.ents++[⟨x,l.next⟩],l.next+1,l.many+1⟩:=if_pos hk3
     rw [e] at hrun
     apply qh []
     repeat' (first|apply And.intro|(intro h;try exact cDd)|(refine Exists.intro (k) ⟨by omega,_,hxm,?_⟩)|(refine Exists.intro (k+1,⟨l.ents++[⟨x,l.next⟩],l.next+1,l.many+1⟩) ⟨⟨by omega,by simp [hlk],by simp only;omega,hrun⟩,by simp only;omega,?_⟩)|exact cSd|apply qb []|refine exr ?_|refine qm ?_)
     all_goals (simp;done)
    ·have e:qjy l x=⟨l.ents++[⟨x,0⟩],l.next,l.many⟩:=if_neg hk3
     rw [e] at hrun
     apply qh []
     repeat' (first|apply And.intro|(intro h;try exact cDd)|(refine Exists.intro (k) ⟨by omega,_,hxm,?_⟩)|(refine Exists.intro (k+1,⟨l.ents++[⟨x,0⟩],l.next,l.many⟩) ⟨⟨by omega,by simp [hlk],by simp only;omega,hrun⟩,by simp only;omega,?_⟩)|exact cSd|apply qb []|refine exr ?_|refine qm ?_)
     all_goals (simp;done)
   ·have hkn:k=its.length:=by omega
    subst hkn
    rw [List.drop_length] at hrun
    have e:ofF its=l:=hrun.symm
    rw [e]
    apply qh []
    repeat' (first|apply And.intro|(intro h;try exact cDd)|exact cSd|apply qb []|refine exr ?_|refine qm ?_)
end Go.Proofs.YtmoklbacdkmkaaaGreatDoor
