/- Contracts and plain facts that the closing text leans on (part 7). No condition of their own beyond those that each states. -/
import Derived.Test.YtneejjefekdgjaaGreatDoorK6
import Derived.Lib.SliceRun
set_option maxRecDepth 100000
set_option linter.unusedVariables false
set_option linter.unusedSimpArgs false
namespace Go.Proofs.YtneejjefekdgjaaGreatDoor
open Go Go.Av Go.RowKit Go.Proofs Go.Pl
def q20 (L:List LnV) (i:Nat) (x:LnV):List qd:=x.text::vv ((L.drop (i+1)).map qxa)
theorem qr9:∀ (r:List (qd×Bool)),(vv r).length≤r.length
 | []=>by simp [vv]
 |(t,e)::r=>by
  have:=qr9 r
  rw [vv]
  split <;> simp <;> omega
theorem qsa:∀ {r:List (qd×Bool)} {n:Nat},(∀ p∈r,p.1.length≤n)→∀ s∈vv r,s.length≤n
 | [],_,_,s,hs=>by simp [vv] at hs
 |(t,e)::r,n,h,s,hs=>by
  rw [vv] at hs
  split at hs
  ·rcases List.mem_cons.1 hs with rfl|hs
   ·exact h (s,e) (by simp)
   ·exact qsa (fun p hp=>h p (by simp [hp])) s hs
  ·simp at hs
structure LnsB (L:List LnV):Prop where
 len:L.length<100000
 val:∀ x∈L,x.text.length<100000
theorem LnsB.said {L:List LnV} (h:LnsB L) {i:Nat} {x:LnV} (hx:L[i]? = some x):LsB (q20 L i x):=by
 have h1:=qr9 ((L.drop (i+1)).map qxa)
 have h2:=h.len
 have h3:=h.val x (List.mem_of_getElem? hx)
 refine⟨?_,fun s hs=>?_⟩
 ·unfold q20
  simp at h1 ⊢
  omega
 ·rcases List.mem_cons.1 hs with rfl|hs
  ·omega
  ·have:=qsa (n:=100000) (fun p hp=>by
    obtain⟨y,hy,rfl⟩:=List.mem_map.1 hp
    have:=h.val y (List.mem_of_mem_drop hy)
    simp only [qxa]
    omega) s hs
   omega
@[reducible] def qjy (es : List Int) : AV := .sl 1 (es.map fun x => Iv x) none
@[reducible] def qda (bs : List (List za)) : AV := .sl 1 (bs.map qai) none
theorem qsw {a b c:AV} (h1:Pure a) (h2:Pure b) (h3:Pure c):Pure (.tu [a,b,c]):=qfi fun z hz=>by
 simp only [List.mem_cons,List.not_mem_nil,or_false] at hz
 rcases hz with rfl|rfl|rfl
 ·exact h1
 ·exact h2
 ·exact h3
theorem qe6 (es:List Int):Pure (qjy es):=qdl fun x hx=>by
 obtain⟨b,_,rfl⟩:=List.mem_map.1 hx
 intro y hy
 simp only [AV.cells,List.mem_cons,List.not_mem_nil,or_false] at hy
 subst hy
 exact zm _
theorem qum (text:qd) (st:List AObj) (hl:60000<text.length) (h2:text.length<1000000):qn E 23 [Sv text] st fun r st'=>r = .tu [qep [],errA (.num 1)]∧st'=st:=by
 refine wt [.s text] (qdd (qkn _) (yq _)) Tryz.func23 rfl rfl (fun _=>rfl) rfl fun S0=>?_
 apply qi []
 repeat' (first|apply And.intro|(intro h;try exact cDd)|exact cSd|apply qf []|refine exr ?_|refine qj ?_)
def itsE (text:qd):List ja:=if 60000<text.length then [] else (yg text).2
theorem qz7 (text:qd) (st:List AObj) (hl:text.length<1000000):qn E 23 [Sv text] st fun r st'=>r = .tu [qep (itsE text),errA (qbw text)]∧st'=st:=by
 unfold qbw itsE
 by_cases hb:60000<text.length
 ·rw [if_pos hb,if_pos hb]
  exact qum text st hb hl
 ·rw [if_neg hb,if_neg hb]
  have:=q2k text st (by omega)
  unfold qdw at this
  rcases hp:(yg text).1 with _ | ⟨x,y⟩
  ·rw [hp] at this
   exact this
  ·rw [hp] at this
   exact this
def qe9:List Fld→Int→Int→Bool
 | [],_,_=>false
 |f::r,i,n=>if 60<i∨6000<n+(min (f.1.length:Int) 10000+min (f.2.length:Int) 10000) then true else qe9 r (i+1) (n+(min (f.1.length:Int) 10000+min (f.2.length:Int) 10000))
def qc1:List za→Int→Bool
 | [],_=>false
 |x::r,i=>if 50<i then true else if qe9 x.fields 0 0=true then true else qc1 r (i+1)
theorem qm3:∀ (fs:List Fld) (i n:Int),0≤n→n≤6000→0≤i→qe9 fs i n=false→fs.length≤(61 - i).toNat∧∀ f∈fs,f.1.length≤6000∧f.2.length≤6000
 | [],i,n,_,_,_,_=>by simp
 |f::r,i,n,h0,h1,h2,h=>by
  rw [qe9] at h
  split at h
  ·simp at h
  ·obtain⟨g1,g2⟩:=qm3 r _ _ (by omega) (by omega) (by omega) h
   simp only [List.length_cons]
   refine⟨by omega,fun g hg=>?_⟩
   rcases List.mem_cons.1 hg with rfl|hg
   ·omega
   ·exact g2 g hg
theorem qkl:∀ (b:List za) (i:Int),0≤i→qc1 b i=false→b.length≤(51 - i).toNat∧∀ x∈b,qhg x.fields
 | [],_,_,_=>by simp
 |x::r,i,h0,h=>by
  rw [qc1] at h
  split at h
  ·simp at h
  ·split at h
   ·simp at h
   ·rename_i hm
    obtain⟨g1,g2⟩:=qkl r _ (by omega) h
    simp only [List.length_cons]
    refine⟨by omega,fun y hy=>?_⟩
    rcases List.mem_cons.1 hy with rfl|hy
    ·obtain⟨k1,k2⟩:=qm3 y.fields 0 0 (by omega) (by omega) (by omega) (by simpa using hm)
     exact⟨by omega,fun f hf=>by have:=k2 f hf;omega⟩
    ·exact g2 y hy
theorem qrw {b:List za} (h:qc1 b 0=false):qxx b:=by
 obtain⟨h1,h2⟩:=qkl b 0 (by omega) h
 exact⟨by omega,h2⟩
theorem q4f (fs:List Fld) (st:List AObj) (hf:fs.length<9223372036854775808):qn E 87 [vq fs] st fun r st'=>r=Bv (qe9 fs 0 0)∧st'=st:=by
 refine wt [.a (vq fs)] (zm _) Tryz.func87 rfl rfl (fun _=>rfl) rfl fun S0=>?_
 have hm:(fs.map fldA).length=fs.length:=by simp
 apply qi []
 repeat' (first|apply And.intro|(intro h;try exact cDd)|exact cSd|apply qf []|refine exr ?_|refine qj ?_)
 refine wq (X:=Nat×Int) (fun (k,n)=>⟨[(3,.i n),(6,.a (vq fs)),(7,.i fs.length),(8,.i k)],[],0⟩) (fun (k,n)=>k≤fs.length∧k≤61∧0≤n∧n≤6000∧qe9 (fs.drop k) k n=qe9 fs 0 0) (fun x=>fs.length - x.1) (0,0) ⟨by omega,by omega,by omega,by omega,rfl⟩ ?_ ?_
 ·skip
  repeat' (first|apply And.intro|(intro h;try exact cDd)|exact cSd|apply qf []|refine exr ?_|refine qj ?_)
  all_goals first|(simp;done)
 ·rintro⟨k,n⟩ ⟨hk,hk2,h0,h1,h⟩
  by_cases hc:k<fs.length
  ·obtain⟨f,hx⟩:∃ f,fs[k]? = some f:=⟨_,List.getElem?_eq_getElem hc⟩
   have hg:(fs.map fldA)[k]? = some (fldA f):=by simp [hx]
   have hd:fs.drop k=f::fs.drop (k+1):=by
    obtain⟨hlt,e⟩:=List.getElem?_eq_some_iff.1 hx
    rw [List.drop_eq_getElem_cons hlt,e]
   rw [hd,qe9] at h
   apply qi []
   repeat' (first|apply And.intro|(intro h;try exact cDd)|(refine Exists.intro (k) ⟨by omega,_,hg,?_⟩)|(refine Exists.intro (k+1,n+(min (f.1.length:Int) 10000+min (f.2.length:Int) 10000)) ⟨⟨by omega,by omega,by omega,by omega,?_⟩,by simp only;omega,?_⟩)|exact cSd|apply qf []|refine exr ?_|refine qj ?_)
   all_goals first|grind|(simp;done)
  ·have hd:fs.drop k=[]:=List.drop_eq_nil_of_le (by omega)
   rw [hd,qe9] at h
   apply qi []
   repeat' (first|apply And.intro|(intro h;try exact cDd)|exact cSd|apply qf []|refine exr ?_|refine qj ?_)
   all_goals first|grind|(simp [*];done)
theorem q1k (b:List za) (st:List AObj) (hb:b.length<9223372036854775808) (hf:∀ x∈b,x.fields.length<9223372036854775808):qn E 42 [qai b] st fun r st'=>r=Bv (qc1 b 0)∧st'=st:=by
 refine wt [.a (qai b)] (zm _) Tryz.func42 rfl rfl (fun _=>rfl) rfl fun S0=>?_
 have hm:(b.map qbm).length=b.length:=by simp
 apply qi []
 repeat' (first|apply And.intro|(intro h;try exact cDd)|exact cSd|apply qf []|refine exr ?_|refine qj ?_)
 refine wq (X:=Nat) (fun k=>⟨[(5,.a (qai b)),(6,.i b.length),(7,.i k)],[],0⟩) (fun k=>k≤b.length∧k≤51∧qc1 (b.drop k) k=qc1 b 0) (fun x=>b.length - x) 0 ⟨by omega,by omega,rfl⟩ ?_ ?_
 ·skip
  repeat' (first|apply And.intro|(intro h;try exact cDd)|exact cSd|apply qf []|refine exr ?_|refine qj ?_)
  all_goals first|(simp;done)
 ·rintro k ⟨hk,hk2,h⟩
  by_cases hc:k<b.length
  ·obtain⟨x,hx⟩:∃ x,b[k]? = some x:=⟨_,List.getElem?_eq_getElem hc⟩
   have hg:(b.map qbm)[k]? = some (qbm x):=by simp [hx]
   have hd:b.drop k=x::b.drop (k+1):=by
    obtain⟨hlt,e⟩:=List.getElem?_eq_some_iff.1 hx
    rw [List.drop_eq_getElem_cons hlt,e]
   rw [hd,qc1] at h
   have hmu:=fun st=>q4f x.fields st (hf x (List.mem_of_getElem? hx))
   apply qi []
   repeat' (first|apply And.intro|(intro h;try exact cDd)|exact⟨Tryz.call87⟩|refine cpe hmu ?_|(refine Exists.intro (k) ⟨by omega,_,hg,?_⟩)|(refine Exists.intro (k+1) ⟨⟨by omega,by omega,?_⟩,by omega,?_⟩)|exact cSd|apply qf []|refine exr ?_|refine qj ?_)
   all_goals first|grind|(simp;done)
  ·have hd:b.drop k=[]:=List.drop_eq_nil_of_le (by omega)
   rw [hd,qc1] at h
   apply qi []
   repeat' (first|apply And.intro|(intro h;try exact cDd)|exact cSd|apply qf []|refine exr ?_|refine qj ?_)
   all_goals first|grind|(simp [*];done)
end Go.Proofs.YtneejjefekdgjaaGreatDoor
namespace Go.Pl
open Go Go.Proofs
structure EntV where
 x:ja
 id:Int
structure q8 where
 ents:List EntV
 next:Int
 many:Int
def qbv (l:q8) (x:ja):q8:=if x.kind=3 then⟨l.ents++[⟨x,l.next⟩],l.next+1,l.many+1⟩ else⟨l.ents++[⟨x,0⟩],l.next,l.many⟩
def ofF (its:List ja):q8:=its.foldl qbv ⟨[],1,0⟩
end Go.Pl
namespace Go.Proofs.YtneejjefekdgjaaGreatDoor
open Go Go.Av Go.RowKit Go.Proofs Go.Pl
@[reducible] def entA (e : EntV) : AV := .ag [Iv e.x.kind, Sv e.x.raw, vq e.x.fields, Iv e.id]
@[reducible] def x9 (l : q8) : AV := .pp [.sl 4 (l.ents.map entA) none, Iv l.next, Iv l.many]
def qzc (e:ErrV) (l:q8):AV:=match e with
 | .no=>.tu [x9 l,errA .no]
 |e=>.tu [.v (.pointer none),errA e]
theorem qwl (e:EntV):qjv (entA e):=fun y hy=>by
 simp only [AV.cells,List.mem_cons,List.not_mem_nil,or_false] at hy
 rcases hy with rfl|rfl|rfl|rfl
 ·exact zm _
 ·exact zm _
 ·exact qe4 _
 ·exact zm _
theorem qm1 (l:q8):Pure (x9 l):=qvf fun x hx=>by
 simp only [List.mem_cons,List.not_mem_nil,or_false] at hx
 rcases hx with rfl|rfl|rfl
 ·exact qdl fun x hx=>by
   obtain⟨f,_,rfl⟩:=List.mem_map.1 hx
   exact qwl f
 ·exact zm _
 ·exact zm _
theorem quc (e:ErrV) (l:q8):Pure (qzc e l):=by
 cases e with
 |no=>exact qdd (qm1 l) (yq _)
 |num n=>exact qdd (zm _) (yq _)
 |at' a n=>exact qdd (zm _) (yq _)
theorem qh9:∀ (n:Nat) (rest:qd) (k:Nat) (p:PSt),rest.length≤n→PB (4 * k) p→k+rest.length≤60000→(runL k (kf rest) p).2.items.length≤300000:=by
 have nil:∀ (k:Nat) (p:PSt),PB (4 * k) p→k≤60000→(runL k (kf []) p).2.items.length≤300000:=fun k p hB hk=>by
  have e:jv p 0 [] true 1=endP p:=rfl
  have h:=qf9 (no:=0) (text:=[]) (ended:=true) (kind:=1) hB (by omega) (by simp)
  rw [e] at h
  have e2:runL k (kf []) p=endP p:=by rw [qap];rfl
  rw [e2]
  have:=h.items
  omega
 intro n
 induction n with
 |zero=>
  intro rest k p hr hB hk
  obtain rfl:rest=[]:=List.eq_nil_of_length_eq_zero (by omega)
  exact nil k p hB (by simpa using hk)
 |succ n ih=>
  intro rest k p hr hB hk
  by_cases hne:rest=[]
  ·subst hne
   exact nil k p hB (by simpa using hk)
  ·have hu:=qeb 10 rest
   have hpl:=qb1 10 rest
   have hr0:0<rest.length:=List.length_pos_iff.2 hne
   rw [qbe hne]
   simp only [runL]
   have hB2:=qtc (no:=k) (text:=upto 10 rest) (ended:=decide (10∈rest)) hB (by omega) (by omega)
   split
   ·have:=hB.items
    simp only
    omega
   ·exact ih (past 10 rest) (k+1) _ (by omega) hB2 (by omega)
theorem qr3 (text:qd):(itsE text).length≤300000:=by
 unfold itsE
 split
 ·simp
 ·have h:=qh9 text.length text 0 p0 (Nat.le_refl _) q2z (by omega)
  unfold yg
  split
  ·simp
  ·exact h
theorem q1q (text:qd) (st:List AObj) (hl:text.length<1000000):qn E 35 [Sv text] st fun r st'=>r=qzc (qbw text) (ofF (itsE text))∧st'=st:=by
 refine qsv [.s text] (quc _ _) Tryz.func35 rfl rfl (fun _=>rfl) rfl fun S0=>?_
 have hp:=fun st=>qz7 text st hl
 have hil:=qr3 text
 generalize itsE text=its at hp hil
 cases he:qbw text with
 |num n=>
  rw [he] at hp
  apply qi [19]
  repeat' (first|apply And.intro|(intro h;try exact cDd)|exact⟨Tryz.call23⟩|refine cpe hp ?_|exact cSd|apply qf [19]|refine exr ?_|refine qj ?_)
 |at' a n=>
  rw [he] at hp
  apply qi [19]
  repeat' (first|apply And.intro|(intro h;try exact cDd)|exact⟨Tryz.call23⟩|refine cpe hp ?_|exact cSd|apply qf [19]|refine exr ?_|refine qj ?_)
 |no=>
  rw [he] at hp
  apply qi [19]
  repeat' (first|apply And.intro|(intro h;try exact cDd)|exact⟨Tryz.call23⟩|refine cpe hp ?_|exact cSd|apply qf [19]|refine exr ?_|refine qj ?_)
  refine wq (X:=Nat×q8) (fun (k,l)=>⟨[(6,.bx 0 0),(20,.a (qep its)),(21,.i its.length),(22,.i k)],[(0,some (.cells 156 [.tp 1,.i l.next,.i l.many])),(1,some (.tip 4 152 (l.ents.map entA)))],2⟩)
   (fun (k,l)=>k≤its.length∧l.ents.length=k∧(1≤l.next∧l.next≤k+1∧0≤l.many∧l.many≤k)∧(its.drop k).foldl qbv l=ofF its) (fun (k,l)=>its.length - k) (0,⟨[],1,0⟩) ⟨by omega,rfl,⟨by decide,by decide,by decide,by decide⟩,rfl⟩ ?_ ?_
  ·skip
   repeat' (first|apply And.intro|(intro h;try exact cDd)|exact cSd|apply qf []|refine exr ?_|refine qj ?_)
   all_goals (simp;done)
  ·rintro⟨k,l⟩ ⟨hk,hlk,hnx,hrun⟩
   by_cases hkn:k<its.length
   ·have hx:its[k]? = some its[k]:=List.getElem?_eq_getElem hkn
    have hxm:(its.map qei)[k]? = some (qei its[k]):=by rw [List.getElem?_map,hx];rfl
    rw [List.drop_eq_getElem_cons hkn,List.foldl_cons] at hrun
    have hml:(l.ents.map entA).length=l.ents.length:=by simp
    generalize its[k]=x at hx hxm hrun
    by_cases hk3:x.kind=3
    ·have e:qbv l x=⟨l.ents++[⟨x,l.next⟩],l.next+1,l.many+1⟩:=if_pos hk3
     rw [e] at hrun
     apply qi []
     repeat' (first|apply And.intro|(intro h;try exact cDd)|(refine Exists.intro (k) ⟨by omega,_,hxm,?_⟩)|(refine Exists.intro (k+1,⟨l.ents++[⟨x,l.next⟩],l.next+1,l.many+1⟩) ⟨⟨by omega,by simp [hlk],by simp only;omega,hrun⟩,by simp only;omega,?_⟩)|exact cSd|apply qf []|refine exr ?_|refine qj ?_)
     all_goals (simp;done)
    ·have e:qbv l x=⟨l.ents++[⟨x,0⟩],l.next,l.many⟩:=if_neg hk3
     rw [e] at hrun
     apply qi []
     repeat' (first|apply And.intro|(intro h;try exact cDd)|(refine Exists.intro (k) ⟨by omega,_,hxm,?_⟩)|(refine Exists.intro (k+1,⟨l.ents++[⟨x,0⟩],l.next,l.many⟩) ⟨⟨by omega,by simp [hlk],by simp only;omega,hrun⟩,by simp only;omega,?_⟩)|exact cSd|apply qf []|refine exr ?_|refine qj ?_)
     all_goals (simp;done)
   ·have hkn:k=its.length:=by omega
    subst hkn
    rw [List.drop_length] at hrun
    have e:ofF its=l:=hrun.symm
    rw [e]
    apply qi []
    repeat' (first|apply And.intro|(intro h;try exact cDd)|exact cSd|apply qf []|refine exr ?_|refine qj ?_)
end Go.Proofs.YtneejjefekdgjaaGreatDoor
namespace Go.Av
open Go Go.RowKit
theorem qgq {E:Env} {rd:Option Nat} {N:Nat} {ops:Array Oper} {K:AS→Prop} {s:AS} {rest:List Oper} {d:Option Tmp} {T:TypeId} {p:String} {af:Array Edge} {x:Operand} {t t' te:TypeId} {sz:Nat} {xs:List AV} {tip:Option Nat} (hx:qh N s x = .sl sz xs tip) (hu:E.P.underlying t=some (.slice te))
  (h1:xs=[]→AOps E rd N ops rest K (s.put d (Bv true))) (h2:AOps E rd N ops rest K (s.put d (Bv false))):AOps E rd N ops (⟨d,.binOp .eql t x (.const (.slice none 0 0)) t',T,p,af,none⟩::rest) K s:=by
 refine qt rfl (qs nofun fun B0 w0 G a w _ hI=>?_)
 have he:=hI.eval_of hx
 have key:∃ q n c,a.eval x = .slice q n c∧(q.isNone=true→xs=[]):=by
  generalize a.eval x=u at he
  cases he with
  |sl0=>exact⟨_,_,_,rfl,fun _=>rfl⟩
  |sl=>exact⟨_,_,_,rfl,fun h=>by simp at h⟩
 obtain⟨q,n,c,hv,hq0⟩:=key
 have hc:a.eval (.const (.slice none 0 0)) = .slice none 0 0:=rfl
 have hq:=Lib.run_eql_slice_nil (P:=E.P) w t te q n c 0 0 hu
 refine⟨_,w,G,.v (.bool q.isNone),s.st,?_,.refl G,hI.agree,.v _,?_⟩
 ·generalize a.eval = ρ at hv hc
  simp [execOp,hv,hc,eqGuard_at_slice,hq]
 ·cases hb:q.isNone with
  |true=>exact h1 (hq0 hb)
  |false=>exact h2
theorem qbs.len0 {c:AV} (h:qbs c):∀ (G:Gh) (v:Value),Rel G c v→∃ b n cp,v = .slice b n cp∧n≤cp:=fun G v hv=>by
 obtain⟨base,rfl⟩:=h.val G v hv
 exact⟨_,_,_,rfl,Nat.le_refl _⟩
end Go.Av
namespace Go.Proofs.YtneejjefekdgjaaGreatDoor
open Go Go.Av Go.RowKit Go.Proofs Go.Pl
theorem qme (fs:List Fld) (st:List AObj) (hl:fs.length<1000000):qn E 71 [vq fs] st fun r st'=>r=vq fs∧st'=st:=by
 refine zz (qe4 _) (qx Tryz.func71 rfl (Nat.le_of_ble_eq_true rfl) ?_)
 have hml:(fs.map fldA).length=fs.length:=by simp
 rw [List.append_nil]
 repeat' (first|(apply qc9 (st:=st);(iterate 6 exact rfl))|(apply qgq;exact rfl;exact rfl;intro h0)|apply qv|apply qm|apply qk|apply qp|apply qo|(apply qc;exact rfl;apply cd_t;exact cRa)|(apply qc;exact rfl;apply cd_f;exact cRa)|apply q9|apply zj|(apply qqu (b:=st.length) (xs:=[]) (ys:=fs.map fldA) (bytes:=32);(iterate 5 exact rfl);exact⟨⟨_,_,rfl,rfl,rfl,rfl,rfl⟩⟩;(focus (repeat' (first|assumption|exact q2p _ _ _ _|exact q40 _ _ _ _ _ _ _|apply q2q|apply q0f|(refine qau (T:=_) (ver:=_) (cs:=_) ?_)|exact qaf|exact qag rfl|apply we|apply xh|omega|apply qdc)));(exact qfg);(first|exact rfl|exact qdq fun _=>rfl);((simp [maxLen];omega));((simp;omega));intro c' S' t1 g1 g2 g3 g4))
 ·exact qu rfl (qam (zp rfl) (fun G v h=>by
   rw [vq,h0]
   exact qa7 h)) ⟨rfl,_,(List.append_nil st).symm⟩
 ·exact qu rfl (qam (zp rfl) (qsx g1)) ⟨rfl,qn4 fun j hj=>(g2.same j (by omega) (Nat.lt_of_lt_of_le hj qfg)).trans (List.getElem?_append_left hj)⟩
theorem qwe (es:List EntV) (st:List AObj) (hl:es.length<1000000):qn E 153 [.sl 4 (es.map entA) none] st fun r st'=>OwnR 4 152 (es.map entA) st (.v undef) r st':=by
 refine qx Tryz.func153 rfl (Nat.le_of_ble_eq_true rfl) ?_
 have hml:(es.map entA).length=es.length:=by simp
 rw [List.append_nil]
 by_cases he:es=[]
 ·subst he
  repeat' (first|(apply qc9 (st:=st);(iterate 6 exact rfl))|(apply qgq;exact rfl;exact rfl;intro h0)|(apply qqt (c:=.os st.length 0 0 0 0);exact rfl;exact (qjf _ _ _).len0;exact fun _ _ h=>h;exact rfl;exact rfl;exact⟨⟨_,_,rfl,rfl,rfl,rfl,rfl⟩⟩)|apply qv|apply qm|apply qk|apply qp|apply qo|(apply qc;exact rfl;apply cd_t;exact cRa)|(apply qc;exact rfl;apply cd_f;exact cRa)|apply q9|apply zj)
  ·exact qu rfl (zp rfl) ⟨.inl ⟨rfl,qlg none⟩,Nat.le_refl _,fun _ _ _=>rfl,fun o ho=>by
   have ho:(none:Option Nat)=some o:=ho
   simp at ho⟩
  ·exact qu rfl (zp rfl) ⟨.inl ⟨rfl,qjf _ _ _⟩,qfg,fun j hj _=>List.getElem?_append_left hj,fun o ho=>by
   have ho:(none:Option Nat)=some o:=ho
   simp at ho⟩
 ·have hne:es.map entA≠[]:=by simpa using he
  repeat' (first|(apply qc9 (st:=st);(iterate 6 exact rfl))|(apply qgq;exact rfl;exact rfl;intro h0)|(refine qfm (ys:=es.map entA) (bytes:=56) (qjf _ _ _).val (fun _ _ h=>h) rfl rfl ⟨⟨_,_,rfl,rfl,rfl,rfl,rfl⟩⟩ (qdq fun _=>rfl) hne (by simp [maxLen];omega) (by simp;omega) fun cap pad q1 q2 q3 q4=>?_)|apply qv|apply qm|apply qk|apply qp|apply qo|(apply qc;exact rfl;apply cd_t;exact cRa)|(apply qc;exact rfl;apply cd_f;exact cRa)|apply q9|apply zj)
  ·exact absurd h0 hne
  ·refine qu rfl (zp rfl) ⟨.inr ⟨_,0,cap,pad,rfl,qaf,q1,q2,q3,q4⟩,Nat.le_trans qfg qfg,fun j hj _=>?_,fun o ho=>?_⟩
   ·show ((st++[_])++[_])[j]? = _
    rw [List.getElem?_append_left (by simp;omega),List.getElem?_append_left hj]
   ·have ho':some (st++[AObj.cells 0 152 []]).length=some o:=ho
    simp only [Option.some.injEq] at ho'
    left
    rw [← ho']
    simp
end Go.Proofs.YtneejjefekdgjaaGreatDoor
namespace Go.Pl
open Go Go.Proofs
def qbd (id:Int):Nat→List EntV→Int
 | _,[]=> -1
 |k,e::r=>if e.id=id then (k:Int) else qbd id (k+1) r
def atF (l:q8) (id:Int):Int:=if id<1 then -1 else qbd id 0 l.ents
theorem qms (id:Int):∀ (es:List EntV) (k:Nat),qbd id k es = -1∨∃ i e,qbd id k es=((k+i:Nat):Int)∧es[i]? = some e∧e.id=id
 | [],k=>.inl rfl
 |e::r,k=>by
  unfold qbd
  by_cases h:e.id=id
  ·rw [if_pos h]
   exact .inr ⟨0,e,by simp,rfl,h⟩
  ·rw [if_neg h]
   rcases qms id r (k+1) with g | ⟨i,e',g1,g2,g3⟩
   ·exact .inl g
   ·exact .inr ⟨i+1,e',by rw [g1];congr 1;omega,by simpa using g2,g3⟩
theorem qiu (l:q8) (id:Int):atF l id = -1∨∃ (i:Nat) (e:EntV),atF l id=(i:Int)∧l.ents[i]? = some e∧e.id=id∧1≤id:=by
 unfold atF
 by_cases h:id<1
 ·exact .inl (if_pos h)
 ·rw [if_neg h]
  rcases qms id l.ents 0 with g | ⟨i,e,g1,g2,g3⟩
  ·exact .inl g
  ·exact .inr ⟨i,e,by rw [g1];congr 1;omega,g2,g3,by omega⟩
end Go.Pl
namespace Go.Proofs.YtneejjefekdgjaaGreatDoor
open Go Go.Av Go.RowKit Go.Proofs Go.Pl
theorem q6s (e:EntV) (id:Int) (st:List AObj):qn E 136 [entA e,.pp [Iv id]] st fun r st'=>r=Bv (decide (e.id=id))∧st'=st:=by
 refine wt [.a (entA e),.a (.pp [Iv id])] (zm _) Tryz.func136 rfl rfl (fun _=>rfl) rfl fun S0=>?_
 apply qi []
 repeat' (first|apply And.intro|(intro h;try exact cDd)|exact cSd|apply qf []|refine exr ?_|refine qj ?_)
@[reducible] def atFn (id : Int) : SV := .fn (.func 136) [] [.a (.pp [Iv id])]
@[reducible] def lstH (a : Nat) (l : q8) : List (Nat × Option SR) := [(0, some (.cells 156 [.tp a, .i l.next, .i l.many])), (a, some (.own 4 152 (l.ents.map entA)))]
theorem q1l (es:List EntV) (id:Int) (hl:es.length<1000000):wu E 135 [.tp 0,atFn id] 1 (hpF [(0,some (.own 4 152 (es.map entA)))]) ⟨.i (qbd id 0 es),wr [(0,some (.own 4 152 (es.map entA)))],[(0,some (.own 4 152 (es.map entA)))]++xd [(0,some (.own 4 152 (es.map entA)))],1⟩:=by
 refine yp [.tp 0,atFn id] [(0,some (.own 4 152 (es.map entA)))] 1 (.i (qbd id 0 es)) [(0,some (.own 4 152 (es.map entA)))] 1 Tryz.func135 rfl rfl rfl rfl fun S F ρ=>?_
 have hml:(es.map entA).length=es.length:=by simp
 apply qi []
 repeat' (first|apply And.intro|(intro h;try exact cDd)|exact cSd|apply qf []|refine exr ?_|refine qj ?_)
 refine wq (X:=Nat) (fun k=>⟨[(0,.tp 0),(1,atFn id),(7,.i es.length),(8,.i k)],[(0,some (.own 4 152 (es.map entA)))],1⟩) (fun k=>k≤es.length∧qbd id k (es.drop k)=qbd id 0 es) (fun k=>es.length - k) 0 ⟨by omega,by simp⟩ ?_ ?_
 ·skip
  repeat' (first|apply And.intro|(intro h;try exact cDd)|exact cSd|apply qf []|refine exr ?_|refine qj ?_)
  all_goals (simp;done)
 ·rintro k ⟨hk,hrun⟩
  by_cases hkn:k<es.length
  ·have hx:es[k]? = some es[k]:=List.getElem?_eq_getElem hkn
   have hxm:(es.map entA)[k]? = some (entA es[k]):=by rw [List.getElem?_map,hx];rfl
   rw [List.drop_eq_getElem_cons hkn,qbd] at hrun
   generalize es[k]=e at hx hxm hrun
   have h1:=fun st=>q6s e id st
   by_cases hid:e.id=id
   ·rw [if_pos hid] at hrun
    rw [decide_eq_true hid] at h1
    rw [← hrun]
    apply qi []
    repeat' (first|apply And.intro|(intro h;try exact cDd)|(refine qli (i:=k) rfl rfl rfl rfl rfl rfl (by omega) ?_)|(refine qsq (i:=k) (j:=0) rfl rfl rfl rfl hxm rfl rfl ?_)|exact⟨Tryz.call136⟩|refine cpe h1 ?_|exact cSd|apply qf []|refine exr ?_|refine qj ?_)
   ·rw [if_neg hid] at hrun
    rw [decide_eq_false hid] at h1
    apply qi []
    repeat' (first|apply And.intro|(intro h;try exact cDd)|(refine qli (i:=k) rfl rfl rfl rfl rfl rfl (by omega) ?_)|(refine qsq (i:=k) (j:=0) rfl rfl rfl rfl hxm rfl rfl ?_)|exact⟨Tryz.call136⟩|refine cpe h1 ?_|(refine Exists.intro (k+1) ⟨⟨by omega,hrun⟩,by omega,?_⟩)|exact cSd|apply qf []|refine exr ?_|refine qj ?_)
  ·have hkn:k=es.length:=by omega
   subst hkn
   rw [List.drop_length,qbd] at hrun
   rw [← hrun]
   apply qi []
   repeat' (first|apply And.intro|(intro h;try exact cDd)|exact cSd|apply qf []|refine exr ?_|refine qj ?_)
theorem qnz (l:q8) (id:Int) (hl:l.ents.length<1000000):wu E 77 [.bx 0 0,.i id] 2 (hpF (lstH 1 l)) ⟨.i (atF l id),wr (lstH 1 l),lstH 1 l++xd (lstH 1 l),2⟩:=by
 refine yp [.bx 0 0,.i id] (lstH 1 l) 2 (.i (atF l id)) (lstH 1 l) 2 Tryz.func77 rfl rfl rfl rfl fun S F ρ=>?_
 unfold atF
 have h1:=q1l l.ents id hl
 by_cases h:id<1
 ·rw [if_pos h]
  apply qi []
  repeat' (first|apply And.intro|(intro h;try exact cDd)|exact cSd|apply qf []|refine exr ?_|refine qj ?_)
 ·rw [if_neg h]
  apply qi []
  repeat' (first|apply And.intro|(intro h;try exact cDd)|exact⟨Tryz.call135⟩|(refine js h1 ?_)|exact cSd|apply qf []|refine exr ?_|refine qj ?_)
end Go.Proofs.YtneejjefekdgjaaGreatDoor
namespace Go.Pl
open Go Go.Proofs
def qol (fs:List Fld):qd:=if vp fs = .no then wx fs else []
def qa6 (fs:List Fld):ja:=if vp fs = .no then⟨3,wx fs,fs⟩ else⟨0,[],[]⟩
def x2 (l:q8):List ja:=l.ents.map fun e=>e.x
end Go.Pl
namespace Go.Proofs.YtneejjefekdgjaaGreatDoor
open Go Go.Av Go.RowKit Go.Proofs Go.Pl
theorem qzy (fs:List Fld) (st:List AObj) (hK:KeyB fs) (hl:fs.length<9223372036854775808):qn E 286 [vq fs] st fun r st'=>r = .tu [Sv (qol fs),errA (vp fs)]∧st'=st:=by
 refine wt [.a (vq fs)] (qdd (zm _) (yq _)) Tryz.func286 rfl rfl (fun _=>rfl) rfl fun S0=>?_
 unfold qol
 cases he:vp fs with
 |no=>
  rw [if_pos rfl]
  have h1:=fun st=>qh4 fs st _ he hK hl
  obtain⟨_,h3,h4⟩:=qhj he
  have h2:=fun st=>qwt fs st h3 h4
  apply qi []
  repeat' (first|apply And.intro|(intro h;try exact cDd)|exact⟨Tryz.call228⟩|refine cpe h1 ?_|exact⟨Tryz.call167⟩|refine cpe h2 ?_|exact cSd|apply qf []|refine exr ?_|refine qj ?_)
 |num n=>
  rw [if_neg (by simp)]
  have h1:=fun st=>qh4 fs st _ he hK hl
  apply qi []
  repeat' (first|apply And.intro|(intro h;try exact cDd)|exact⟨Tryz.call228⟩|refine cpe h1 ?_|exact cSd|apply qf []|refine exr ?_|refine qj ?_)
 |at' a n=>
  rw [if_neg (by simp)]
  have h1:=fun st=>qh4 fs st _ he hK hl
  apply qi []
  repeat' (first|apply And.intro|(intro h;try exact cDd)|exact⟨Tryz.call228⟩|refine cpe h1 ?_|exact cSd|apply qf []|refine exr ?_|refine qj ?_)
theorem qvd (fs:List Fld) (st:List AObj) (hK:KeyB fs) (hl:fs.length<1000000):qn E 229 [vq fs] st fun r st'=>r = .tu [qei (qa6 fs),errA (vp fs)]∧st'=st:=by
 refine wt [.a (vq fs)] (qdd (qp5 (qkm _)) (yq _)) Tryz.func229 rfl rfl (fun _=>rfl) rfl fun S0=>?_
 have h1:=fun st=>qzy fs st hK (by omega)
 have h2:=fun st=>qme fs st hl
 unfold qol at h1
 unfold qa6
 cases he:vp fs with
 |no=>
  rw [he,if_pos rfl] at h1
  rw [if_pos rfl]
  apply qi []
  repeat' (first|apply And.intro|(intro h;try exact cDd)|exact⟨Tryz.call286⟩|refine cpe h1 ?_|exact⟨Tryz.call71⟩|refine cpe h2 ?_|exact cSd|apply qf []|refine exr ?_|refine qj ?_)
 |num n=>
  rw [he,if_neg (by simp)] at h1
  rw [if_neg (by simp)]
  apply qi []
  repeat' (first|apply And.intro|(intro h;try exact cDd)|exact⟨Tryz.call286⟩|refine cpe h1 ?_|exact cSd|apply qf []|refine exr ?_|refine qj ?_)
 |at' a n=>
  rw [he,if_neg (by simp)] at h1
  rw [if_neg (by simp)]
  apply qi []
  repeat' (first|apply And.intro|(intro h;try exact cDd)|exact⟨Tryz.call286⟩|refine cpe h1 ?_|exact cSd|apply qf []|refine exr ?_|refine qj ?_)
theorem qfo (es:List EntV):∀ x∈es.map entA,x.cells.length=4:=fun x hx=>by
 obtain⟨e,_,rfl⟩:=List.mem_map.1 hx
 rfl
theorem qcf (es:List EntV):(flat (es.map entA)).length=es.length * 4:=by
 rw [jk (qfo es),List.length_map]
theorem qeo (a b:List EntV):flat ((a++b).map entA)=flat (a.map entA)++flat (b.map entA):=by rw [List.map_append,yf]
theorem qcv (A B xs:List AV) {off:Nat} (h:A.length=off):jd (A++B) off xs=A++xs++B.drop xs.length:=by
 unfold jd
 rw [← h,List.take_left,List.drop_append,List.drop_eq_nil_of_le (by omega)]
 simp
theorem qfc {cs xs:List AV} {off:Nat} (h:off+xs.length≤cs.length):(jd cs off xs).length=cs.length:=by
 unfold jd
 simp
 omega
theorem q6i (es:List EntV) (i:Nat) (hi:i<es.length) (hl:es.length<1000000) (st:List AObj) (c:AV) (hc:OwnS st 4 152 (es.map entA) c):qn E 230 [c,Iv i,Iv ((i:Int)+1)] st fun r st'=>OwnR 4 152 ((es.take i++es.drop (i+1)).map entA) st c r st':=by
 have hml:(es.map entA).length=es.length:=by simp
 rcases hc with⟨h0,_⟩ | ⟨o,ver,cap,pad,rfl,e2,e3,e4,e5,e6⟩
 ·rw [h0] at hml
  simp at hml
  omega
 rw [hml] at e5 ⊢
 have hlt:=lt_of_getElem? e2
 have hfl:=qcf es
 have hsplit:flat (es.map entA)++pad=flat ((es.take i).map entA)++(flat ((es.drop i).map entA)++pad):=by
  rw [← List.append_assoc,← qeo,List.take_append_drop]
 have ht4:(flat ((es.take i).map entA)).length=i * 4:=by rw [qcf,List.length_take,Nat.min_eq_left (by omega)]
 have hd4:(flat ((es.drop (i+1)).map entA)).length=(es.length - (i+1)) * 4:=by rw [qcf,List.length_drop]
 obtain⟨B1,hB1⟩:∃ B1,(flat ((es.drop i).map entA)++pad).drop (flat ((es.drop (i+1)).map entA)).length=B1:=⟨_,rfl⟩
 have hsp:jd (flat (es.map entA)++pad) (i * 4) (flat ((es.drop (i+1)).map entA))=flat ((es.take i++es.drop (i+1)).map entA)++B1:=by
  rw [hsplit,qcv _ _ _ ht4,qeo,hB1]
 have hsl:(flat ((es.take i++es.drop (i+1)).map entA)++B1).length=(cap+1) * 4:=by
  rw [← hsp,qfc (by rw [e3,hd4];omega),e3]
 have hel:(es.take i++es.drop (i+1)).length=es.length - 1:=by simp;omega
 -- what is appended
 obtain⟨q,hq⟩:∃ q,(if cap+1=i+1 then 0 else 0+(i+1) * 4)=q:=⟨_,rfl⟩
 have hqz:((flat (es.map entA)++pad).drop q).take ((es.length - (i+1)) * 4)=flat ((es.drop (i+1)).map entA)∧q+(es.length - (i+1)) * 4≤(flat (es.map entA)++pad).length:=by
  rw [e3]
  by_cases hci:cap+1=i+1
  ·have:es.length - (i+1)=0:=by omega
   rw [if_pos hci] at hq
   rw [this,← hq,List.drop_eq_nil_of_le (by omega:es.length≤i+1)]
   exact⟨by simp [flat],by omega⟩
  ·rw [if_neg hci] at hq
   rw [← hq]
   refine⟨?_,by omega⟩
   have e:flat (es.map entA)++pad=flat ((es.take (i+1)).map entA)++(flat ((es.drop (i+1)).map entA)++pad):=by
    rw [← List.append_assoc,← qeo,List.take_append_drop]
   have e':(flat ((es.take (i+1)).map entA)).length=0+(i+1) * 4:=by rw [qcf,List.length_take,Nat.min_eq_left (by omega)];omega
   rw [e,← e',List.drop_left,← hd4,List.take_left]
 have hsrc:SrcA st 4 (.os o ver q (es.length - (i+1)) (cap+1 - (i+1))) (es.length - (i+1)) (es.length - (i+1)) (flat ((es.drop (i+1)).map entA)):=by
  have:=SrcA.os (st:=st) (sz:=4) o ver q (es.length - (i+1)) (cap+1 - (i+1)) (es.length - (i+1)) _ _ e2 hqz.2 (by rw [hqz.1];exact qdq fun _=>rfl)
  rw [hqz.1] at this
  exact this
 refine qx Tryz.func230 rfl (Nat.le_of_ble_eq_true rfl) ?_
 rw [List.append_nil]
 repeat' (first|(refine zr (sz:=4) (i:=i) (j:=i+1) (m:=es.length) rfl rfl rfl ?_ ?_ ?_ ?_ ?_ ?_ ?_;exact⟨_,rfl⟩;exact⟨_,rfl⟩;exact⟨_,rfl⟩;omega;omega;omega)|apply qv|apply qm|apply qk|apply qp|apply qo|(apply zb;(iterate 3 exact rfl))|(apply qc;exact rfl;apply xg;exact cAo)|(apply zl;(iterate 4 exact rfl))|apply q9)
 refine qn0 (fun s=>StA [(0,.os o ver 0 (i+(es.length - (i+1))) (cap+1)),(7,Iv es.length)] (st.set o (.cells ver 152 (flat ((es.take i++es.drop (i+1)).map entA)++B1))) [] s) ?_ ?_
 ·refine qgc rfl rfl ?_
  (apply yx 0;exact rfl;kernel_rfl;kernel_rfl;kernel_rfl;exact rfl;exact qad)
  (apply yx 1;exact rfl;kernel_rfl;kernel_rfl;kernel_rfl;exact rfl;exact qad)
  (apply yx 3;exact rfl;kernel_rfl;kernel_rfl;kernel_rfl;exact rfl;exact qad)
  (apply yx 4;exact rfl;kernel_rfl;kernel_rfl;kernel_rfl;exact rfl;exact qad)
  refine xn [2,5] (by kernel_rfl) rfl ⟨⟨_,rfl,?_⟩,⟨_,rfl,?_⟩,trivial⟩
  ·(refine zr (sz:=4) (i:=0) (j:=i) (m:=cap+1) rfl rfl rfl ?_ ?_ ?_ ?_ ?_ ?_ ?_;exact rfl;exact⟨_,rfl⟩;exact rfl;omega;omega;omega)
   apply qk
   refine xn [5] (by kernel_rfl) rfl ⟨⟨_,rfl,?_⟩,trivial⟩
   (refine zr (sz:=4) (i:=i+1) (j:=es.length) (m:=cap+1) rfl rfl rfl ?_ ?_ ?_ ?_ ?_ ?_ ?_;exact⟨_,rfl⟩;exact⟨rfl,rfl⟩;exact rfl;omega;omega;omega;rw [hq])
   apply qk
   refine xn [6] (by kernel_rfl) rfl ⟨⟨_,rfl,?_⟩,trivial⟩
   (refine qij (bytes:=56) (o:=o) (ver:=ver) (n:=i) (cap:=cap+1) (m:=es.length - (i+1)) (cs:=flat (es.map entA)++pad) rfl rfl e2 hsrc rfl rfl ⟨⟨_,_,rfl,rfl,rfl,rfl,rfl⟩⟩ (by omega) e3 ?_;rw [hsp])
   apply qk
   (apply yx 7;exact rfl;kernel_rfl;kernel_rfl;kernel_rfl;exact rfl;exact qow)
   refine qbx (by kernel_rfl) ?_
   exact qac ⟨rfl,rfl,trivial⟩
  ·(refine zr (sz:=4) (i:=i+1) (j:=es.length) (m:=cap+1) rfl rfl rfl ?_ ?_ ?_ ?_ ?_ ?_ ?_;exact⟨_,rfl⟩;exact⟨rfl,rfl⟩;exact rfl;omega;omega;omega;rw [hq])
   apply qk
   refine xn [2] (by kernel_rfl) rfl ⟨⟨_,rfl,?_⟩,trivial⟩
   (refine zr (sz:=4) (i:=0) (j:=i) (m:=cap+1) rfl rfl rfl ?_ ?_ ?_ ?_ ?_ ?_ ?_;exact rfl;exact⟨_,rfl⟩;exact rfl;omega;omega;omega)
   apply qk
   refine xn [6] (by kernel_rfl) rfl ⟨⟨_,rfl,?_⟩,trivial⟩
   (refine qij (bytes:=56) (o:=o) (ver:=ver) (n:=i) (cap:=cap+1) (m:=es.length - (i+1)) (cs:=flat (es.map entA)++pad) rfl rfl e2 hsrc rfl rfl ⟨⟨_,_,rfl,rfl,rfl,rfl,rfl⟩⟩ (by omega) e3 ?_;rw [hsp])
   apply qk
   (apply yx 7;exact rfl;kernel_rfl;kernel_rfl;kernel_rfl;exact rfl;exact qow)
   refine qbx (by kernel_rfl) ?_
   exact qac ⟨rfl,rfl,trivial⟩
 ·rintro _ ⟨t,rfl⟩
  have hob:(st.set o (AObj.cells ver 152 (flat ((es.take i++es.drop (i+1)).map entA)++B1)))[o]? = some (.cells ver 152 (flat ((es.take i++es.drop (i+1)).map entA)++B1)):=we e2
  have hqq:(if cap+1=i+(es.length - (i+1)) then 0 else 0+(i+(es.length - (i+1))) * 4)=(es.length - 1) * 4:=by
   rw [if_neg (by omega)]
   omega
  have hfe:(flat ((es.take i++es.drop (i+1)).map entA)).length=(es.length - 1) * 4:=by rw [qcf,hel]
  repeat' (first|(refine zr (sz:=4) (i:=i+(es.length - (i+1))) (j:=es.length) (m:=cap+1) rfl rfl rfl ?_ ?_ ?_ ?_ ?_ ?_ ?_;exact⟨_,rfl⟩;exact⟨_,rfl⟩;exact rfl;omega;omega;omega;rw [hqq])|(refine qqy (sz:=4) (bytes:=56) rfl hob rfl ⟨⟨_,_,rfl,rfl,rfl,rfl,rfl⟩⟩ rfl (by rw [hsl];omega) fun zs hz=>?_)|apply qv|apply qm|apply qk|apply qp|apply qo|(apply zl;(iterate 4 exact rfl))|apply zj)
  refine qu rfl (zp rfl) ?_
  show OwnR 4 152 _ st _ (.os o ver 0 (i+(es.length - (i+1))) (cap+1)) ((st.set o _).set o (.cells ver 152 (jd (flat ((es.take i++es.drop (i+1)).map entA)++B1) ((es.length - 1) * 4) zs)))
  rw [List.set_set,qcv _ _ _ hfe,List.append_assoc]
  have hB1l:(es.length - 1) * 4+B1.length=(cap+1) * 4:=by rw [← hfe,← List.length_append];exact hsl
  have hzl:zs.length=4:=by rw [hz];omega
  refine⟨.inr ⟨o,ver,cap,zs++B1.drop zs.length,?_,we e2,?_,qfo _,?_,e6⟩,by simp,fun j hj hne=>List.getElem?_set_ne fun e=>hne (by rw [e];rfl),fun o' ho'=>.inr ho'⟩
  ·rw [List.length_map,hel]
   congr 1
   omega
  ·rw [List.length_append,List.length_append,List.length_drop,hfe,hzl]
   omega
  ·rw [List.length_map,hel]
   omega
theorem q4q (e:EntV) (st:List AObj) (c:AV) (hnr:qbs c):qn E 231 [c,Iv 0,.sl 4 [entA e] none] st fun r st'=>OwnR 4 152 [entA e] st c r st':=by
 refine qx Tryz.func231 rfl (Nat.le_of_ble_eq_true rfl) ?_
 rw [List.append_nil]
 repeat' (first|(apply zl (n:=1);(iterate 4 exact rfl))|(refine qq0 (sz:=4) rfl hnr.val rfl rfl ?_ ?_;exact⟨_,rfl⟩)|(apply zl;exact rfl;exact hnr.len;exact rfl;exact rfl)|(refine qfm (sz:=4) (ys:=[entA e]) (bytes:=56) hnr.val (fun _ _ h=>h) rfl rfl ⟨⟨_,_,rfl,rfl,rfl,rfl,rfl⟩⟩ rfl (by simp) (by simp [maxLen]) (by simp) fun cap pad q1 q2 q3 q4=>?_)|apply qv|apply qm|apply qk|apply qp|apply qo|(apply zb;(iterate 3 exact rfl))|(apply qc;exact rfl;apply xi;exact cAo)|(apply qc;exact rfl;apply xg;exact cAo)|apply q9|apply zj)
 refine qu rfl (zp rfl) ?_
 show OwnR 4 152 _ st c (.os st.length 0 0 _ (cap+1)) (st++[_])
 refine⟨.inr ⟨_,0,cap,pad,rfl,qaf,q1,q2,q3,q4⟩,qfg,fun j hj _=>List.getElem?_append_left hj,fun o ho=>?_⟩
 simp only [zg,Option.some.injEq] at ho
 left
 omega
theorem q4r (es:List EntV) (e:EntV) (hl:es.length<1000000) (st:List AObj) (o ver cap:Nat) (pad:List AV) (e2:st[o]? = some (.cells ver 152 (flat (es.map entA)++pad))) (e3:(flat (es.map entA)++pad).length=(cap+1) * 4) (e5:es.length≤cap+1) (e6:cap+1≤maxLen) :
  qn E 231 [.os o ver 0 es.length (cap+1),Iv es.length,.sl 4 [entA e] none] st fun r st'=>OwnR 4 152 (es.map entA++[entA e]) st (.os o ver 0 es.length (cap+1)) r st':=by
 have hml:(es.map entA).length=es.length:=by simp
 have hlt:=lt_of_getElem? e2
 have hV0:Vec 4 152 o (es.map entA) (.os o ver 0 es.length (cap+1)) (.cells ver 152 (flat (es.map entA)++pad)):=by
  have:=Vec.os (o:=o) (T:=152) (xs:=es.map entA) ver (cap+1) pad e3 (qfo _) (by omega) e6
  rw [hml] at this
  exact this
 refine qx Tryz.func231 rfl (Nat.le_of_ble_eq_true rfl) ?_
 rw [List.append_nil]
 repeat' (first|(apply zl (n:=1);(iterate 4 exact rfl))|(refine zr (sz:=4) (i:=es.length) (j:=es.length) (m:=cap+1) rfl rfl rfl ?_ ?_ ?_ ?_ ?_ ?_ ?_;exact⟨_,rfl⟩;exact⟨rfl,rfl⟩;exact rfl;omega;omega;omega)|(refine qpt (sz:=4) (bytes:=56) (o:=o) (xs:=es.map entA) (ys:=[entA e]) rfl (fun _ _ h=>h) hV0 e2 rfl rfl ⟨⟨_,_,rfl,rfl,rfl,rfl,rfl⟩⟩ rfl (by simp [maxLen];omega) (by simp;omega) fun a' ob' hV=>?_)|apply qv|apply qm|apply qk|apply qp|apply qo|(apply zb;(iterate 3 exact rfl))|(apply qc;exact rfl;apply xi;exact cAo)|(apply qc;exact rfl;apply xg;exact cAo)|(apply zl;(iterate 4 exact rfl))|apply q9|apply zj)
 rcases q6o hV with⟨q,_,_⟩ | ⟨ver',cap',pad',rfl,rfl,q1,q2,q3,q4⟩
 ·simp at q
 ·obtain⟨cap',rfl⟩:∃ c,cap'=c+1:=⟨cap' - 1,by simp at q3;omega⟩
  refine qu rfl (zp rfl) ?_
  show OwnR 4 152 _ st _ (.os o ver' 0 _ (cap'+1)) (st.set o _)
  exact⟨.inr ⟨o,ver',cap',pad',rfl,we e2,q1,q2,q3,q4⟩,by simp,fun j hj hne=>List.getElem?_set_ne fun e=>hne (by rw [e];rfl),fun o' ho'=>.inr ho'⟩
theorem qso (w:World) (a b:Addr) (la ca lb cb:Nat) (tA tB:TypeId) (kA kB:Nat) (h1:a.block≠b.block) (h2:w.shape? a.block=some (tA,kA)) (h3:w.shape? b.block=some (tB,kB)) (h4:kA≠0) (h5:w.frozen? b=false) (h6:w.frozen? { block:=b.block,off:=kB }=false) :
  (callFunc 287 #[.slice (some a) la ca,.slice (some b) lb cb]).run E.P w = .ok (.value (.bool false)) w:=by
 have hz:∀ w,(Go.sizeOf 152).run E.P w = .ok 4 w:=fun w=>(wg (agg:=true) rfl w).1
 rw [run_callFunc_extern (P:=E.P) Tryz.func287 (by kernel_rfl) (by kernel_rfl) (by kernel_rfl) (e:=Extern.SlicesOverlaps.overlaps #[154,154] #[4]) (by kernel_rfl),
  qln w 154 4 152 rfl 4 hz a b la ca lb cb h1 tA tB kA kB h2 h3 h4 h5 h6]
 rfl
structure InsB (es:List EntV) (e:EntV) (i cap:Nat) (pad:List AV):Prop where
 t4:(flat ((es.take i).map entA)).length=i * 4
 d4:(flat ((es.drop i).map entA)).length=(es.length - i) * 4
 split:flat (es.map entA)++pad=flat ((es.take i).map entA)++(flat ((es.drop i).map entA)++pad)
 take:(flat (es.map entA)++pad).take (i * 4)=flat ((es.take i).map entA)
 drop:((flat (es.map entA)++pad).drop (0+i * 4)).take ((es.length - i) * 4)=flat ((es.drop i).map entA)
 new:flat ((es.take i++e::es.drop i).map entA)=flat ((es.take i).map entA)++flat [entA e]++flat ((es.drop i).map entA)
 nl:(es.take i++e::es.drop i).length=es.length+1
 src:∀ o ver L c' (S:List AObj),(flat (es.map entA)++pad).length=(cap+1) * 4→es.length≤cap+1→S[o]? = some (.cells ver 152 (flat (es.map entA)++pad))→SrcA S 4 (.os o ver (0+i * 4) L c') L (es.length - i) (flat ((es.drop i).map entA))
theorem insB (es:List EntV) (e:EntV) (i cap:Nat) (pad:List AV) (hi:i<es.length):InsB es e i cap pad:=by
 have ht4:(flat ((es.take i).map entA)).length=i * 4:=by rw [qcf,List.length_take,Nat.min_eq_left (by omega)]
 have hd4:(flat ((es.drop i).map entA)).length=(es.length - i) * 4:=by rw [qcf,List.length_drop]
 have hsplit:flat (es.map entA)++pad=flat ((es.take i).map entA)++(flat ((es.drop i).map entA)++pad):=by
  rw [← List.append_assoc,← qeo,List.take_append_drop]
 have hdrop:((flat (es.map entA)++pad).drop (0+i * 4)).take ((es.length - i) * 4)=flat ((es.drop i).map entA):=by rw [Nat.zero_add,hsplit,← ht4,List.drop_left,← hd4,List.take_left]
 refine⟨ht4,hd4,hsplit,by rw [hsplit,← ht4,List.take_left],hdrop,?_,by simp;omega,fun o ver L c' S e3 e5 hS=>?_⟩
 ·rw [qeo]
  simp [flat]
 ·have:=SrcA.os (st:=S) (sz:=4) o ver (0+i * 4) L c' (es.length - i) _ _ hS (by rw [e3];omega) (by rw [hdrop];exact qdq fun _=>rfl)
  rw [hdrop] at this
  exact this
set_option maxHeartbeats 4000000 in
theorem q4t (es:List EntV) (e:EntV) (i:Nat) (hi:i<es.length) (hl:es.length<1000000) (st:List AObj) (o ver cap:Nat) (pad:List AV) (e2:st[o]? = some (.cells ver 152 (flat (es.map entA)++pad))) (e3:(flat (es.map entA)++pad).length=(cap+1) * 4) (e5:es.length+1≤cap+1) (e6:cap+1≤maxLen) :
  qn E 231 [.os o ver 0 es.length (cap+1),Iv i,.sl 4 [entA e] none] st fun r st'=>OwnR 4 152 ((es.take i++e::es.drop i).map entA) st (.os o ver 0 es.length (cap+1)) r st':=by
 have hI:=insB es e i cap pad hi
 have hlt:=lt_of_getElem? e2
 have hfl1:(flat [entA e]).length=4:=rfl
 have ht4:=hI.t4
 have hd4:=hI.d4
 have hi1:(if cap+1=i then 0 else 0+i * 4)=0+i * 4:=if_neg (by omega)
 have hi2:(if cap+1=i+1 then 0 else 0+(i+1) * 4)=(i+1) * 4:=by rw [if_neg (by omega)];omega
 obtain⟨B1,hB1⟩:∃ B1,(flat ((es.drop i).map entA)++pad).drop 4=B1:=⟨_,rfl⟩
 obtain⟨A1,hA1⟩:∃ A1,(flat ((es.drop i).map entA)++pad).take 4=A1:=⟨_,rfl⟩
 have hA1l:A1.length=4:=by
  rw [← hA1,List.length_take,List.length_append,hd4]
  omega
 obtain⟨X1,hX1⟩:∃ X1,flat ((es.take i).map entA)++A1++flat ((es.drop i).map entA)++B1.drop ((es.length - i) * 4)=X1:=⟨_,rfl⟩
 have hsp1:jd (flat (es.map entA)++pad) ((i+1) * 4) (flat ((es.drop i).map entA))=X1:=by
  have e1:flat (es.map entA)++pad=(flat ((es.take i).map entA)++A1)++B1:=by rw [hI.split,List.append_assoc,← hA1,← hB1,List.take_append_drop]
  rw [e1,qcv _ _ _ (by rw [List.length_append,ht4,hA1l];omega),hd4,hX1]
 have hsp2:jd X1 (0+i * 4) (flat [entA e])=flat ((es.take i++e::es.drop i).map entA)++B1.drop ((es.length - i) * 4):=by
  have e1:X1=flat ((es.take i).map entA)++(A1++(flat ((es.drop i).map entA)++B1.drop ((es.length - i) * 4))):=by rw [← hX1];simp
  rw [e1,qcv _ _ _ (by rw [ht4];omega),hfl1,List.drop_append_of_le_length (by omega),List.drop_eq_nil_of_le (by omega:A1.length≤4),hI.new]
  simp
 have hsl1:X1.length=(cap+1) * 4:=by
  rw [← hsp1,qfc (by rw [e3,hd4];omega),e3]
 have hsl2:(flat ((es.take i++e::es.drop i).map entA)++B1.drop ((es.length - i) * 4)).length=(cap+1) * 4:=by
  rw [← hsp2,qfc (by rw [hsl1,hfl1];omega),hsl1]
 have hsrc:=hI.src o ver (es.length+1 - i) (cap+1 - i) st e3 (by omega) e2
 have hnl:=hI.nl
 generalize hXn:flat ((es.take i++e::es.drop i).map entA)++B1.drop ((es.length - i) * 4)=Xn at hsp2 hsl2
 clear hX1 hB1 hA1 hI ht4 hd4
 generalize hdz:flat ((es.drop i).map entA)=dz at hsp1 hsrc
 refine qx Tryz.func231 rfl (Nat.le_of_ble_eq_true rfl) ?_
 rw [List.append_nil]
 generalize flat (es.map entA)++pad=X0 at e2 e3 hsp1
 repeat' (first|apply qv|apply qm|apply qk|apply qp|apply qo)
 refine zr (o:=o) (ver:=ver) (off:=0) (len:=es.length) (cap:=cap+1) (sz:=4) (i:=i) (j:=es.length) (m:=cap+1) rfl rfl rfl ?_ ?_ ?_ (by omega) (by omega) (by omega) ?_
 ·exact⟨_,rfl⟩
 ·exact⟨rfl,rfl⟩
 ·exact rfl
 repeat' (first|(apply zl (n:=1);(iterate 4 exact rfl))|apply qv|apply qm|apply qk|apply qp|apply qo|(apply zb;(iterate 3 exact rfl))|(apply qc;exact rfl;apply xg;exact cAo)|(apply zl;(iterate 4 exact rfl))|(apply z8;exact rfl;exact rfl;exact ql (by omega) (by omega))|apply q9)
 refine ql2 rfl rfl rfl ?_
 repeat' (first|apply qv|apply qm|apply qk|apply qp|(apply zb;(iterate 3 exact rfl))|(apply qc;exact rfl;apply xg;exact cAo)|(apply z8;exact rfl;exact rfl;exact ql (by omega) (by omega))|apply q9)
 refine zr (o:=o) (ver:=ver) (off:=0) (len:=es.length) (cap:=cap+1) (sz:=4) (i:=0) (j:=es.length+1) (m:=cap+1) rfl rfl rfl ?_ ?_ ?_ (by omega) (by omega) (by omega) ?_
 ·exact rfl
 ·exact⟨_,rfl⟩
 ·exact rfl
 repeat' (first|apply qv|apply qm|apply qk|apply qp|apply qo|(apply z8;exact rfl;exact rfl;exact ql (by omega) (by omega)))
 refine zr (o:=o) (ver:=ver) (off:=0) (len:=es.length+1) (cap:=cap+1) (sz:=4) (i:=i+1) (j:=es.length+1) (m:=cap+1) rfl rfl rfl ?_ ?_ ?_ (by omega) (by omega) (by omega) ?_
 ·exact⟨_,rfl⟩
 ·exact⟨rfl,rfl⟩
 ·exact rfl
 rw [hi2]
 repeat' (first|(apply w7;first|apply qv|apply zw|apply qm|(apply qc;exact rfl;apply xi;exact cAo)|(apply qc;exact rfl;apply xg;exact cAo)|(apply qc;exact rfl;apply yu;exact cRa)|(apply qc;exact rfl;apply y0;exact cRa)|(apply qc;exact rfl;apply cd_n <;> intro h)|(apply qc;exact rfl;apply cd_t;exact cRa)|(apply qc;exact rfl;apply cd_f;exact cRa)|(apply qc;exact rfl;apply cd_d <;> intro h)|(apply qc;exact rfl;apply cd_s <;> intro h)|apply q9|apply kc|apply zj)|(apply ku;first|(apply q6;(iterate 4 exact rfl))|(apply zk;(iterate 4 exact rfl)))|(apply xy;first|(apply vg;exact cAo)|(apply wl;exact cAo)|(apply vd;exact cAo)|(apply vm;exact cAo)|(apply vl;exact cRa)|(apply wd;exact cRa)|(apply va;exact cRa)|(apply ki;exact cRa)|(apply kj <;> intro h)|(apply wo;exact cRa)|(apply xa;exact cRa)|(apply vn;exact cRa)|(apply ve;exact cRa)|(apply j9 <;> intro h)|(apply wp <;> intro h))|(apply xx;first|apply ye|(apply xq;(iterate 4 exact rfl))|(apply yo;exact rfl;exact rfl;exact ql (by omega) (by omega))|(apply xv;(iterate 4 exact rfl);exact cAs;exact cAs)|(apply j7;(iterate 5 exact rfl))|(apply vk;exact rfl;exact rfl;exact cOs)|(apply kh;(iterate 3 exact rfl))|(apply jz;(iterate 5 exact rfl))|(apply zv;(iterate 4 exact rfl))|(apply zu;(iterate 3 exact rfl))|(apply yn;(iterate 3 exact rfl);exact cAs)|(apply xu;exact rfl;exact rfl)|(apply wz;exact rfl;exact rfl)|(apply w6;(iterate 3 exact rfl);omega)|(apply v8;(iterate 3 exact rfl))|apply xk|apply v7|(apply ym;exact rfl;exact rfl;exact ql (by omega) (by omega))|(apply xt;(iterate 3 exact rfl))|(apply xw;(iterate 3 exact rfl);exact cAs)|(apply xp;(iterate 3 exact rfl);exact cAs)|(apply kq;exact rfl;exact rfl))|(apply kr;first|(apply zb;(iterate 3 exact rfl))|(apply jn;(iterate 3 exact rfl))|(apply jf;exact rfl;exact rfl;exact cOs)|(apply z8;exact rfl;exact rfl;exact ql (by omega) (by omega))|(apply vr;exact rfl;exact rfl;exact ql (by omega) (by omega))|(apply zx;exact rfl;exact rfl)|(apply zy;exact rfl;exact rfl)|(apply jg;exact rfl;exact rfl)|(apply jh;exact rfl;exact rfl)|(apply zq;(iterate 3 exact rfl))|(apply ji;(iterate 3 exact rfl))|(apply kp;exact rfl;exact rfl;(first|exact qg _|exact rfl);first|exact qg _|exact rfl)|(apply kl;exact rfl;exact rfl;(first|exact qg _|exact rfl);first|exact qg _|exact rfl)|(apply v6;exact rfl;exact rfl;(first|exact qg _|exact rfl);first|exact qg _|exact rfl)|(apply km;(iterate 3 exact rfl))|(apply ko;(iterate 3 exact rfl)))|(apply wb;first|(apply zf;(iterate 3 exact rfl))|(apply jq;(iterate 5 exact rfl))|(apply zh;(iterate 5 exact rfl)))|(apply wc;first|(apply kg;exact rfl)|(apply ju;exact rfl)|(apply jw;exact rfl))|(apply kw;first|(apply vj;(iterate 3 exact rfl);exact cAs)|(apply vh;(iterate 3 exact rfl);exact cAs)|(apply vi;(iterate 4 exact rfl);exact cAs;exact cAs)|(apply z0;(iterate 4 exact rfl);(first|assumption|omega|exact Nat.succ_le_succ (Nat.zero_le _)|(simp;omega));exact rfl))|(apply wa;first|(apply j5;(iterate 3 exact rfl))|(apply zl;(iterate 4 exact rfl)))|(apply jc;first|(apply qw;(iterate 3 exact rfl))|(apply q7;(iterate 4 exact rfl)))|(apply kz;first|(apply jb;(iterate 11 exact rfl))|(apply ze;(iterate 11 exact rfl)))|(apply w8;first|apply qk|apply qp|apply qo|(apply zn;exact rfl;exact rfl)|(apply qe;exact rfl;apply yj;exact cAo)|(apply qe;exact rfl;apply yw;exact cAo)|(apply qe;exact rfl;apply qaa;exact cRa)|(apply qe;exact rfl;apply y9;exact cRa)|(apply qe;exact rfl;apply pk_t;exact cRa)|(apply qe;exact rfl;apply pk_f;exact cRa)|(apply qy;exact rfl;exact rfl)|apply z7|(apply z4;exact rfl;exact rfl)|(apply vc;(iterate 4 exact rfl))|(apply j8;(iterate 3 exact rfl))|(apply wn;(iterate 3 exact rfl);exact cAs)|(apply jt;(iterate 3 exact rfl))|(apply zo;(iterate 9 exact rfl))|(apply zi;exact rfl;exact rfl)|(apply j6;(iterate 4 exact rfl);(first|assumption|omega|decide);exact rfl)|(apply zt;(iterate 4 exact rfl);first|assumption|omega|decide)))
 refine qpv (xs:=[entA e]) (o:=o) (ver:=ver) rfl rfl e2 (by simp [flat,AV.cells]) qso ?_
 repeat' (first|apply qv|apply qk|(apply ju;exact rfl)|(apply qc;exact rfl;apply yu;exact cRa))
 refine qov [(0,.os o ver 0 (es.length+1) (cap+1)),(1,Iv i),(2,.sl 4 [entA e] none),(7,Iv 1)] st [] ⟨rfl,rfl,rfl,rfl,trivial⟩ rfl rfl fun t=>?_
 refine qn0 (fun s=>StA [(0,.os o ver 0 (es.length+1) (cap+1)),(1,Iv i),(2,.sl 4 [entA e] none)] (st.set o (.cells ver 152 X1)) [] s) ?_ ?_
 ·refine qgc rfl rfl ?_
  (apply yx 0;exact rfl;kernel_rfl;kernel_rfl;kernel_rfl;exact rfl;exact qad)
  (apply yx 1;exact rfl;kernel_rfl;kernel_rfl;kernel_rfl;exact rfl;exact qad)
  (apply yx 2;exact rfl;kernel_rfl;kernel_rfl;kernel_rfl;exact rfl;exact qad)
  (apply yx 5;exact rfl;kernel_rfl;kernel_rfl;kernel_rfl;exact rfl;exact qad)
  (apply yx 6;exact rfl;kernel_rfl;kernel_rfl;kernel_rfl;exact rfl;exact qad)
  refine xn [3,7] (by kernel_rfl) rfl ⟨⟨_,rfl,?_⟩,⟨_,rfl,?_⟩,trivial⟩
  ·(apply z8;exact rfl;exact rfl;exact ql (by omega) (by omega))
   apply qk
   refine xn [4,7] (by kernel_rfl) rfl ⟨⟨_,rfl,?_⟩,⟨_,rfl,?_⟩,trivial⟩
   ·(refine zr (o:=o) (ver:=ver) (off:=0) (len:=es.length+1) (cap:=cap+1) (sz:=4) (i:=i+1) (j:=es.length+1) (m:=cap+1) rfl rfl rfl ?_ ?_ ?_ (by omega) (by omega) (by omega) ?_;exact⟨_,rfl⟩;exact⟨rfl,rfl⟩;exact rfl;rw [hi2])
    apply qk
    refine xn [7] (by kernel_rfl) rfl ⟨⟨_,rfl,?_⟩,trivial⟩
    (refine zr (o:=o) (ver:=ver) (off:=0) (len:=es.length+1) (cap:=cap+1) (sz:=4) (i:=i) (j:=es.length+1) (m:=cap+1) rfl rfl rfl ?_ ?_ ?_ (by omega) (by omega) (by omega) ?_;exact⟨_,rfl⟩;exact⟨rfl,rfl⟩;exact rfl;rw [hi1])
    apply qk
    refine xn [8] (by kernel_rfl) rfl ⟨⟨_,rfl,?_⟩,trivial⟩
    (refine qal (o:=o) (ver:=ver) (off:=(i+1) * 4) (sz:=4) (bytes:=56) (m:=es.length - i) rfl rfl e2 hsrc ?_ rfl ⟨⟨_,_,rfl,rfl,rfl,rfl,rfl⟩⟩ ?_ ?_;(show min _ _=_;omega);(rw [e3];omega);rw [hsp1])
    apply qk
    refine qbx (by kernel_rfl) ?_
    exact qac ⟨rfl,rfl,rfl,trivial⟩
   ·(refine zr (o:=o) (ver:=ver) (off:=0) (len:=es.length+1) (cap:=cap+1) (sz:=4) (i:=i) (j:=es.length+1) (m:=cap+1) rfl rfl rfl ?_ ?_ ?_ (by omega) (by omega) (by omega) ?_;exact⟨_,rfl⟩;exact⟨rfl,rfl⟩;exact rfl;rw [hi1])
    apply qk
    refine xn [4] (by kernel_rfl) rfl ⟨⟨_,rfl,?_⟩,trivial⟩
    (refine zr (o:=o) (ver:=ver) (off:=0) (len:=es.length+1) (cap:=cap+1) (sz:=4) (i:=i+1) (j:=es.length+1) (m:=cap+1) rfl rfl rfl ?_ ?_ ?_ (by omega) (by omega) (by omega) ?_;exact⟨_,rfl⟩;exact⟨rfl,rfl⟩;exact rfl;rw [hi2])
    apply qk
    refine xn [8] (by kernel_rfl) rfl ⟨⟨_,rfl,?_⟩,trivial⟩
    (refine qal (o:=o) (ver:=ver) (off:=(i+1) * 4) (sz:=4) (bytes:=56) (m:=es.length - i) rfl rfl e2 hsrc ?_ rfl ⟨⟨_,_,rfl,rfl,rfl,rfl,rfl⟩⟩ ?_ ?_;(show min _ _=_;omega);(rw [e3];omega);rw [hsp1])
    apply qk
    refine qbx (by kernel_rfl) ?_
    exact qac ⟨rfl,rfl,rfl,trivial⟩
  ·(refine zr (o:=o) (ver:=ver) (off:=0) (len:=es.length+1) (cap:=cap+1) (sz:=4) (i:=i) (j:=es.length+1) (m:=cap+1) rfl rfl rfl ?_ ?_ ?_ (by omega) (by omega) (by omega) ?_;exact⟨_,rfl⟩;exact⟨rfl,rfl⟩;exact rfl;rw [hi1])
   apply qk
   refine xn [3] (by kernel_rfl) rfl ⟨⟨_,rfl,?_⟩,trivial⟩
   (apply z8;exact rfl;exact rfl;exact ql (by omega) (by omega))
   apply qk
   refine xn [4] (by kernel_rfl) rfl ⟨⟨_,rfl,?_⟩,trivial⟩
   (refine zr (o:=o) (ver:=ver) (off:=0) (len:=es.length+1) (cap:=cap+1) (sz:=4) (i:=i+1) (j:=es.length+1) (m:=cap+1) rfl rfl rfl ?_ ?_ ?_ (by omega) (by omega) (by omega) ?_;exact⟨_,rfl⟩;exact⟨rfl,rfl⟩;exact rfl;rw [hi2])
   apply qk
   refine xn [8] (by kernel_rfl) rfl ⟨⟨_,rfl,?_⟩,trivial⟩
   (refine qal (o:=o) (ver:=ver) (off:=(i+1) * 4) (sz:=4) (bytes:=56) (m:=es.length - i) rfl rfl e2 hsrc ?_ rfl ⟨⟨_,_,rfl,rfl,rfl,rfl,rfl⟩⟩ ?_ ?_;(show min _ _=_;omega);(rw [e3];omega);rw [hsp1])
   apply qk
   refine qbx (by kernel_rfl) ?_
   exact qac ⟨rfl,rfl,rfl,trivial⟩
 ·rintro _ ⟨t,rfl⟩
  have hob:(st.set o (AObj.cells ver 152 X1))[o]? = some (.cells ver 152 X1):=we e2
  repeat' (first|apply qv|apply qm|apply qp)
  refine zr (o:=o) (ver:=ver) (off:=0) (len:=es.length+1) (cap:=cap+1) (sz:=4) (i:=i) (j:=es.length+1) (m:=cap+1) rfl rfl rfl ?_ ?_ ?_ (by omega) (by omega) (by omega) ?_
  ·exact⟨_,rfl⟩
  ·exact⟨rfl,rfl⟩
  ·exact rfl
  rw [hi1]
  repeat' (first|apply qp)
  refine qal (o:=o) (ver:=ver) (off:=0+i * 4) (sz:=4) (bytes:=56) (L:=1) (m:=1) rfl rfl hob (.sl [entA e] none rfl) ?_ rfl ⟨⟨_,_,rfl,rfl,rfl,rfl,rfl⟩⟩ ?_ ?_
  ·show min _ _=_
   omega
  ·rw [hsl1]
   omega
  rw [hsp2]
  repeat' (first|apply qv|apply qm|apply qk|apply qp|apply qo|apply zj)
  refine qu rfl (zp rfl) ?_
  show OwnR 4 152 _ st _ (.os o ver 0 (es.length+1) (cap+1)) ((st.set o _).set o (.cells ver 152 Xn))
  rw [List.set_set,← hXn]
  rw [← hXn] at hsl2
  exact⟨.inr ⟨o,ver,cap,_,by rw [List.length_map,hnl],we e2,hsl2,qfo _,by rw [List.length_map,hnl];omega,e6⟩,by simp,fun j hj hne=>List.getElem?_set_ne fun e=>hne (by rw [e];rfl),fun o' ho'=>.inr ho'⟩
set_option maxHeartbeats 4000000 in
theorem q4s (es:List EntV) (e:EntV) (i:Nat) (hi:i<es.length) (hl:es.length<1000000) (st:List AObj) (o ver cap:Nat) (pad:List AV) (e2:st[o]? = some (.cells ver 152 (flat (es.map entA)++pad))) (e3:(flat (es.map entA)++pad).length=(cap+1) * 4) (e5:es.length=cap+1) (e6:cap+1≤maxLen) :
  qn E 231 [.os o ver 0 es.length (cap+1),Iv i,.sl 4 [entA e] none] st fun r st'=>OwnR 4 152 ((es.take i++e::es.drop i).map entA) st (.os o ver 0 es.length (cap+1)) r st':=by
 have hI:=insB es e i cap pad hi
 have hlt:=lt_of_getElem? e2
 have hfl1:(flat [entA e]).length=4:=rfl
 have ht4:=hI.t4
 have hd4:=hI.d4
 have htake:=hI.take
 have hi1:(if cap+1=i then 0 else 0+i * 4)=0+i * 4:=if_neg (by omega)
 have hsrc:=fun S=>hI.src o ver (es.length - i) (cap+1 - i) S e3 (by omega)
 have hnl:=hI.nl
 have hnew:=hI.new
 have hk9:Iv ((es.length:Int)+1 - i)=Iv ((es.length+1 - i:Nat):Int):=congrArg (fun z:Int=>Iv z) (by omega)
 have hkk:i+(es.length+1 - i)=es.length+1:=by omega
 generalize flat ((es.drop i).map entA)=dz at hsrc hd4 hnew
 refine qx Tryz.func231 rfl (Nat.le_of_ble_eq_true rfl) ?_
 rw [List.append_nil]
 generalize flat (es.map entA)++pad=X0 at e2 e3 htake hsrc
 repeat' (first|apply qv|apply qm|apply qk|apply qp|apply qo)
 refine zr (o:=o) (ver:=ver) (off:=0) (len:=es.length) (cap:=cap+1) (sz:=4) (i:=i) (j:=es.length) (m:=cap+1) rfl rfl rfl ?_ ?_ ?_ (by omega) (by omega) (by omega) ?_
 ·exact⟨_,rfl⟩
 ·exact⟨rfl,rfl⟩
 ·exact rfl
 repeat' (first|(apply zl (n:=1);(iterate 4 exact rfl))|apply qv|apply qm|apply qk|apply qp|apply qo|(apply zb;(iterate 3 exact rfl))|(apply qc;exact rfl;apply xg;exact cAo)|(apply zl;(iterate 4 exact rfl))|(apply z8;exact rfl;exact rfl;exact ql (by omega) (by omega))|apply q9)
 refine ql2 rfl rfl rfl ?_
 refine ql5 [(0,.os o ver 0 es.length (cap+1)),(1,Iv i),(2,.sl 4 [entA e] none),(7,Iv 1),(8,Iv es.length),(28,Iv ((es.length:Int)+1)),(30,Iv ((cap+1:Nat):Int))] st [] ⟨rfl,rfl,rfl,rfl,rfl,rfl,rfl,trivial⟩ rfl rfl fun t=>?_
 repeat' (first|apply qv|apply qm|apply qk|apply qp|(apply zb;(iterate 3 exact rfl))|(apply qc;exact rfl;apply xi;exact cAo))
 refine zr (o:=o) (ver:=ver) (off:=0) (len:=es.length) (cap:=cap+1) (sz:=4) (i:=0) (j:=i) (m:=cap+1) rfl rfl rfl ?_ ?_ ?_ (by omega) (by omega) (by omega) ?_
 ·exact rfl
 ·exact⟨_,rfl⟩
 ·exact rfl
 repeat' (first|apply qp|(apply z8;exact rfl;exact rfl;exact ql (by omega) (by omega))|(apply vr;exact rfl;exact rfl;exact ql (by omega) (by omega)))
 refine qkw (sz:=4) (bytes:=56) (o:=o) (ver:=ver) (n:=i) (cap:=cap+1) (k:=es.length+1 - i) (cs:=X0) rfl hk9 e2 rfl rfl ⟨⟨_,_,rfl,rfl,rfl,rfl,rfl⟩⟩ (by omega) (by omega) (by omega) (by rw [e3];omega) (by simp only [maxLen];omega) (by omega) fun cap' zs z1 z2 z3=>?_
 rw [hkk,htake]
 refine ql5 [(0,.os o ver 0 es.length (cap+1)),(1,Iv i),(2,.sl 4 [entA e] none),(7,Iv 1),(40,.os st.length 0 0 (es.length+1) cap')] (st++[.cells 0 152 (flat ((es.take i).map entA)++zs)]) [] ⟨rfl,rfl,rfl,rfl,rfl,trivial⟩ rfl rfl fun t=>?_
 obtain⟨cap',rfl⟩:∃ c,cap'=c+1:=⟨cap' - 1,by omega⟩
 have hi3:(if cap'+1=i then 0 else 0+i * 4)=0+i * 4:=if_neg (by omega)
 have hi4:(if cap'+1=i+1 then 0 else 0+(i+1) * 4)=(i+1) * 4:=by rw [if_neg (by omega)];omega
 have hsp1:jd (flat ((es.take i).map entA)++zs) (0+i * 4) (flat [entA e])=(flat ((es.take i).map entA)++flat [entA e])++zs.drop 4:=qcv _ _ _ (by rw [ht4];omega)
 have hsp2:jd ((flat ((es.take i).map entA)++flat [entA e])++zs.drop 4) ((i+1) * 4) dz=flat ((es.take i++e::es.drop i).map entA)++(zs.drop 4).drop dz.length:=by
  rw [qcv _ _ _ (by rw [List.length_append,ht4,hfl1];omega),hnew]
 have hl1:((flat ((es.take i).map entA)++flat [entA e])++zs.drop 4).length=(cap'+1) * 4:=by
  simp only [List.length_append,List.length_drop,ht4,hfl1,z1]
  omega
 have hl2:(flat ((es.take i++e::es.drop i).map entA)++(zs.drop 4).drop dz.length).length=(cap'+1) * 4:=by
  rw [← hsp2,qfc (by rw [hl1,hd4];omega),hl1]
 have hl0:(flat ((es.take i).map entA)++zs).length=(cap'+1) * 4:=by
  rw [List.length_append,ht4,z1]
  omega
 repeat' (first|apply qv|apply qm|apply qk|apply qp|apply qo)
 refine zr (o:=st.length) (ver:=0) (off:=0) (len:=es.length+1) (cap:=cap'+1) (sz:=4) (i:=i) (j:=es.length+1) (m:=cap'+1) rfl rfl rfl ?_ ?_ ?_ (by omega) (by omega) (by omega) ?_
 ·exact⟨_,rfl⟩
 ·exact⟨rfl,rfl⟩
 ·exact rfl
 rw [hi3]
 repeat' (first|apply qp)
 refine qal (o:=st.length) (ver:=0) (off:=0+i * 4) (sz:=4) (bytes:=56) (L:=1) (m:=1) rfl rfl qaf (.sl [entA e] none rfl) ?_ rfl ⟨⟨_,_,rfl,rfl,rfl,rfl,rfl⟩⟩ ?_ ?_
 ·show min _ _=_
  omega
 ·rw [hl0]
  omega
 rw [hsp1]
 generalize hX1:(flat ((es.take i).map entA)++flat [entA e])++zs.drop 4=X1 at hsp2 hl1
 have hbo:(st++[AObj.cells 0 152 (flat ((es.take i).map entA)++zs)])[st.length]? = some (.cells 0 152 (flat ((es.take i).map entA)++zs)):=qaf
 have hS1n:((st++[AObj.cells 0 152 (flat ((es.take i).map entA)++zs)]).set st.length (.cells 0 152 X1))[st.length]? = some (.cells 0 152 X1):=we hbo
 have hS1o:((st++[AObj.cells 0 152 (flat ((es.take i).map entA)++zs)]).set st.length (.cells 0 152 X1))[o]? = some (.cells ver 152 X0):=by
  rw [List.getElem?_set_ne (by omega),List.getElem?_append_left hlt]
  exact e2
 have hS1j:∀ j,j<st.length→((st++[AObj.cells 0 152 (flat ((es.take i).map entA)++zs)]).set st.length (.cells 0 152 X1))[j]? = st[j]?:=fun j hj=>by
  rw [List.getElem?_set_ne (by omega),List.getElem?_append_left hj]
 have hS1l:((st++[AObj.cells 0 152 (flat ((es.take i).map entA)++zs)]).set st.length (.cells 0 152 X1)).length=st.length+1:=by simp
 repeat' (first|apply qv|apply qk)
 refine qov [(0,.os o ver 0 es.length (cap+1)),(1,Iv i),(7,Iv 1),(9,.os st.length 0 0 (es.length+1) (cap'+1))] ((st++[AObj.cells 0 152 (flat ((es.take i).map entA)++zs)]).set st.length (.cells 0 152 X1)) [] ⟨rfl,rfl,rfl,rfl,trivial⟩ rfl rfl fun t=>?_
 generalize (st++[AObj.cells 0 152 (flat ((es.take i).map entA)++zs)]).set st.length (.cells 0 152 X1)=S1 at hS1n hS1o hS1j hS1l
 refine qn0 (fun s=>StA [(9,.os st.length 0 0 (es.length+1) (cap'+1))] (S1.set st.length (.cells 0 152 (flat ((es.take i++e::es.drop i).map entA)++(zs.drop 4).drop dz.length))) [] s) ?_ ?_
 ·refine qgc rfl rfl ?_
  (apply yx 0;exact rfl;kernel_rfl;kernel_rfl;kernel_rfl;exact rfl;exact qad)
  (apply yx 1;exact rfl;kernel_rfl;kernel_rfl;kernel_rfl;exact rfl;exact qad)
  (apply yx 2;exact rfl;kernel_rfl;kernel_rfl;kernel_rfl;exact rfl;exact qad)
  (apply yx 5;exact rfl;kernel_rfl;kernel_rfl;kernel_rfl;exact rfl;exact qad)
  (apply yx 6;exact rfl;kernel_rfl;kernel_rfl;kernel_rfl;exact rfl;exact qad)
  refine xn [3,7] (by kernel_rfl) rfl ⟨⟨_,rfl,?_⟩,⟨_,rfl,?_⟩,trivial⟩
  ·(apply z8;exact rfl;exact rfl;exact ql (by omega) (by omega))
   apply qk
   refine xn [4,7] (by kernel_rfl) rfl ⟨⟨_,rfl,?_⟩,⟨_,rfl,?_⟩,trivial⟩
   ·(refine zr (o:=st.length) (ver:=0) (off:=0) (len:=es.length+1) (cap:=cap'+1) (sz:=4) (i:=i+1) (j:=es.length+1) (m:=cap'+1) rfl rfl rfl ?_ ?_ ?_ (by omega) (by omega) (by omega) ?_;exact⟨_,rfl⟩;exact⟨rfl,rfl⟩;exact rfl;rw [hi4])
    apply qk
    refine xn [7] (by kernel_rfl) rfl ⟨⟨_,rfl,?_⟩,trivial⟩
    (refine zr (o:=o) (ver:=ver) (off:=0) (len:=es.length) (cap:=cap+1) (sz:=4) (i:=i) (j:=es.length) (m:=cap+1) rfl rfl rfl ?_ ?_ ?_ (by omega) (by omega) (by omega) ?_;exact⟨_,rfl⟩;exact⟨rfl,rfl⟩;exact rfl;rw [hi1])
    apply qk
    refine xn [8] (by kernel_rfl) rfl ⟨⟨_,rfl,?_⟩,trivial⟩
    (refine qal (o:=st.length) (ver:=0) (off:=(i+1) * 4) (sz:=4) (bytes:=56) (m:=es.length - i) rfl rfl hS1n (hsrc S1 hS1o) ?_ rfl ⟨⟨_,_,rfl,rfl,rfl,rfl,rfl⟩⟩ ?_ ?_;(show min _ _=_;omega);(rw [hl1];omega);rw [hsp2])
    apply qk
    refine qbx (by kernel_rfl) ?_
    exact qac ⟨rfl,trivial⟩
   ·(refine zr (o:=o) (ver:=ver) (off:=0) (len:=es.length) (cap:=cap+1) (sz:=4) (i:=i) (j:=es.length) (m:=cap+1) rfl rfl rfl ?_ ?_ ?_ (by omega) (by omega) (by omega) ?_;exact⟨_,rfl⟩;exact⟨rfl,rfl⟩;exact rfl;rw [hi1])
    apply qk
    refine xn [4] (by kernel_rfl) rfl ⟨⟨_,rfl,?_⟩,trivial⟩
    (refine zr (o:=st.length) (ver:=0) (off:=0) (len:=es.length+1) (cap:=cap'+1) (sz:=4) (i:=i+1) (j:=es.length+1) (m:=cap'+1) rfl rfl rfl ?_ ?_ ?_ (by omega) (by omega) (by omega) ?_;exact⟨_,rfl⟩;exact⟨rfl,rfl⟩;exact rfl;rw [hi4])
    apply qk
    refine xn [8] (by kernel_rfl) rfl ⟨⟨_,rfl,?_⟩,trivial⟩
    (refine qal (o:=st.length) (ver:=0) (off:=(i+1) * 4) (sz:=4) (bytes:=56) (m:=es.length - i) rfl rfl hS1n (hsrc S1 hS1o) ?_ rfl ⟨⟨_,_,rfl,rfl,rfl,rfl,rfl⟩⟩ ?_ ?_;(show min _ _=_;omega);(rw [hl1];omega);rw [hsp2])
    apply qk
    refine qbx (by kernel_rfl) ?_
    exact qac ⟨rfl,trivial⟩
  ·(refine zr (o:=o) (ver:=ver) (off:=0) (len:=es.length) (cap:=cap+1) (sz:=4) (i:=i) (j:=es.length) (m:=cap+1) rfl rfl rfl ?_ ?_ ?_ (by omega) (by omega) (by omega) ?_;exact⟨_,rfl⟩;exact⟨rfl,rfl⟩;exact rfl;rw [hi1])
   apply qk
   refine xn [3] (by kernel_rfl) rfl ⟨⟨_,rfl,?_⟩,trivial⟩
   (apply z8;exact rfl;exact rfl;exact ql (by omega) (by omega))
   apply qk
   refine xn [4] (by kernel_rfl) rfl ⟨⟨_,rfl,?_⟩,trivial⟩
   (refine zr (o:=st.length) (ver:=0) (off:=0) (len:=es.length+1) (cap:=cap'+1) (sz:=4) (i:=i+1) (j:=es.length+1) (m:=cap'+1) rfl rfl rfl ?_ ?_ ?_ (by omega) (by omega) (by omega) ?_;exact⟨_,rfl⟩;exact⟨rfl,rfl⟩;exact rfl;rw [hi4])
   apply qk
   refine xn [8] (by kernel_rfl) rfl ⟨⟨_,rfl,?_⟩,trivial⟩
   (refine qal (o:=st.length) (ver:=0) (off:=(i+1) * 4) (sz:=4) (bytes:=56) (m:=es.length - i) rfl rfl hS1n (hsrc S1 hS1o) ?_ rfl ⟨⟨_,_,rfl,rfl,rfl,rfl,rfl⟩⟩ ?_ ?_;(show min _ _=_;omega);(rw [hl1];omega);rw [hsp2])
   apply qk
   refine qbx (by kernel_rfl) ?_
   exact qac ⟨rfl,trivial⟩
 ·rintro _ ⟨t,rfl⟩
  repeat' (first|apply qv|apply qm|apply qk|apply qp|apply qo|apply zj)
  refine qu rfl (zp rfl) ?_
  show OwnR 4 152 _ st _ (.os st.length 0 0 (es.length+1) (cap'+1)) (S1.set st.length (.cells 0 152 (flat ((es.take i++e::es.drop i).map entA)++(zs.drop 4).drop dz.length)))
  refine⟨.inr ⟨st.length,0,cap',_,by rw [List.length_map,hnl],we hS1n,hl2,qfo _,by rw [List.length_map,hnl];omega,z3⟩,by rw [List.length_set,hS1l];omega,fun j hj _=>?_,fun o' ho'=>?_⟩
  ·rw [List.getElem?_set_ne (by omega)]
   exact hS1j j hj
  ·simp only [zg,Option.some.injEq] at ho'
   left
   omega
theorem qz6 (es:List EntV) (e:EntV) (i:Nat) (hi:i≤es.length) (hl:es.length<1000000) (st:List AObj) (c:AV) (hc:OwnS st 4 152 (es.map entA) c):qn E 231 [c,Iv i,.sl 4 [entA e] none] st fun r st'=>OwnR 4 152 ((es.take i++e::es.drop i).map entA) st c r st':=by
 have hml:(es.map entA).length=es.length:=by simp
 have hap:i=es.length→(es.take i++e::es.drop i).map entA=es.map entA++[entA e]:=fun h=>by subst h;simp
 rcases hc with⟨h0,hnr⟩ | ⟨o,ver,cap,pad,rfl,e2,e3,e4,e5,e6⟩
 ·have hes:es=[]:=by simpa using h0
  subst hes
  obtain rfl:i=0:=by simpa using hi
  rw [hap rfl]
  exact q4q e st c hnr
 ·rw [hml] at e5 ⊢
  by_cases hin:i=es.length
  ·rw [hap hin]
   subst hin
   exact q4r es e hl st o ver cap pad e2 e3 e5 e6
  ·by_cases hroom:es.length+1≤cap+1
   ·exact q4t es e i (by omega) hl st o ver cap pad e2 e3 hroom e6
   ·exact q4s es e i (by omega) hl st o ver cap pad e2 e3 (by omega) e6
end Go.Proofs.YtneejjefekdgjaaGreatDoor
namespace Go.Pl
open Go Go.Proofs
def qql (l:q8) (i:Nat) (x:ja):q8:=match l.ents[i]? with
 |some e=>⟨l.ents.set i ⟨x,e.id⟩,l.next,l.many⟩
 |none=>l
def qc7 (l:q8) (id:Int) (fs:List Fld):ErrV×q8:=if atF l id<0 then (.num 7,l) else if vp fs = .no then (.no,qql l (atF l id).toNat (qa6 fs)) else (vp fs,l)
def delL (l:q8) (i:Nat):q8:=⟨l.ents.take i++l.ents.drop (i+1),l.next,l.many - 1⟩
def delF (l:q8) (id:Int):ErrV×q8:=if atF l id<0 then (.num 7,l) else (.no,delL l (atF l id).toNat)
def insL (l:q8) (k:Nat) (x:ja):q8:=⟨l.ents.take k++⟨x,l.next⟩::l.ents.drop k,l.next+1,l.many+1⟩
def insF (l:q8) (id:Int) (fs:List Fld):Int×ErrV×q8:=
 if atF l id<0∧id≠0 then (0,.num 7,l) else if vp fs = .no then (if 400≤l.many then (0,.num 11,l) else (l.next,.no,insL l (atF l id+1).toNat (qa6 fs))) else (0,vp fs,l)
structure LB (n:Nat) (l:q8):Prop where
 small:n<900000
 len:l.ents.length≤n
 nx0:1≤l.next
 nx1:l.next≤n+1
 mn0 : -(n:Int)≤l.many
 mn1:l.many≤n
theorem q2a {n:Nat} {l:q8} (h:LB n l) (hs:n+1<900000) (id:Int) (fs:List Fld):LB (n+1) (qc7 l id fs).2:=by
 have h1:=h.len;have h2:=h.nx0;have h3:=h.nx1;have h4:=h.mn0;have h5:=h.mn1
 unfold qc7
 split
 ·exact⟨hs,by simp only;omega,h2,by simp only;omega,by simp only;omega,by simp only;omega⟩
 ·split
  ·unfold qql
   split
   ·exact⟨hs,by simp;omega,h2,by simp only;omega,by simp only;omega,by simp only;omega⟩
   ·exact⟨hs,by simp only;omega,h2,by simp only;omega,by simp only;omega,by simp only;omega⟩
  ·exact⟨hs,by simp only;omega,h2,by simp only;omega,by simp only;omega,by simp only;omega⟩
theorem q3n {n:Nat} {l:q8} (h:LB n l) (hs:n+1<900000) (id:Int):LB (n+1) (delF l id).2:=by
 have h1:=h.len;have h2:=h.nx0;have h3:=h.nx1;have h4:=h.mn0;have h5:=h.mn1
 unfold delF
 split
 ·exact⟨hs,by simp only;omega,h2,by simp only;omega,by simp only;omega,by simp only;omega⟩
 ·exact⟨hs,by simp [delL];omega,h2,by simp only [delL];omega,by simp only [delL];omega,by simp only [delL];omega⟩
theorem q3y {n:Nat} {l:q8} (h:LB n l) (hs:n+1<900000) (id:Int) (fs:List Fld):LB (n+1) (insF l id fs).2.2:=by
 have h1:=h.len;have h2:=h.nx0;have h3:=h.nx1;have h4:=h.mn0;have h5:=h.mn1
 have same:LB (n+1) l:=⟨hs,by omega,h2,by omega,by omega,by omega⟩
 unfold insF
 split
 ·exact same
 ·split
  ·split
   ·exact same
   ·exact⟨hs,by simp [insL];omega,by simp only [insL];omega,by simp only [insL];omega,by simp only [insL];omega,by simp only [insL];omega⟩
  ·exact same
end Go.Pl
namespace Go.Proofs.YtneejjefekdgjaaGreatDoor
open Go Go.Av Go.RowKit Go.Proofs Go.Pl
def oneF (l:q8) (x:za):Int×ErrV×q8:=if x.kind=1 then (0,qc7 l x.id x.fields) else if x.kind=2 then (0,delF l x.id) else insF l x.id x.fields
theorem qva {n:Nat} {l:q8} (h:LB n l) (hs:n+1<900000) (x:za):LB (n+1) (oneF l x).2.2:=by
 unfold oneF
 split
 ·exact q2a h hs _ _
 ·split
  ·exact q3n h hs _
  ·exact q3y h hs _ _
theorem q33 (l:q8) (hl:l.ents.length<1000000):wu E 93 [.a (x9 l)] 0 (hpF []) ⟨.bx 0 0,wr [],lstH 1 l++xd [],2⟩:=by
 refine yp [.a (x9 l)] [] 0 (.bx 0 0) (lstH 1 l) 2 Tryz.func93 rfl rfl rfl rfl fun S F ρ=>?_
 apply qi [19]
 repeat' (first|apply And.intro|(intro h;try exact cDd)|exact⟨Tryz.call153⟩|(refine Exists.intro _ ⟨qtx [.sl 4 (l.ents.map entA) none] _ (fun _=>rfl) (fun st=>qwe l.ents st hl),?_⟩)|exact cSd|apply qf [19]|refine exr ?_|refine qj ?_)
theorem q39 (n:Nat) (l:q8) (id:Int) (fs:List Fld) (hB:LB n l) (hK:KeyB fs) (hl:fs.length<1000000):wu E 154 [.bx 0 0,.i id,.a (vq fs)] 2 (hpF (lstH 1 l)) ⟨.a (errA (qc7 l id fs).1),wr (lstH 1 l),lstH 2 (qc7 l id fs).2++xd (lstH 1 l),3⟩:=by
 refine yp [.bx 0 0,.i id,.a (vq fs)] (lstH 1 l) 2 (.a (errA (qc7 l id fs).1)) (lstH 2 (qc7 l id fs).2) 3 Tryz.func154 rfl rfl rfl rfl fun S F ρ=>?_
 have hle:=hB.len
 have hsm:=hB.small
 have h1:=qnz l id (by omega)
 have h2:=fun st=>qvd fs st hK hl
 unfold qc7
 rcases qiu l id with h | ⟨i,e,h,he,hid,hid1⟩
 ·rw [h] at h1 ⊢
  rw [if_pos (by decide)]
  apply qi []
  repeat' (first|apply And.intro|(intro h;try exact cDd)|exact⟨Tryz.call77⟩|(refine js h1 ?_)|exact cSd|apply qf []|refine exr ?_|refine qj ?_)
 ·rw [h] at h1 ⊢
  rw [if_neg (by omega)]
  have hm:(l.ents.map entA)[i]? = some (entA e):=by rw [List.getElem?_map,he];rfl
  have hil:=lt_of_getElem? hm
  unfold qa6 at h2 ⊢
  cases hc:vp fs with
  |no=>
   rw [hc,if_pos rfl] at h2
   rw [if_pos rfl,if_pos rfl]
   unfold qql
   rw [Int.toNat_natCast,he]
   apply qi []
   repeat' (first|apply And.intro|(intro h;try exact cDd)|exact⟨Tryz.call77⟩|(refine js h1 ?_)|exact⟨Tryz.call229⟩|refine cpe h2 ?_|(refine qli (i:=i) rfl rfl rfl rfl rfl rfl (by omega) ?_)|(refine qzv (i:=i) (j:=0) (z:=entA e) (z':=entA ⟨⟨3,wx fs,fs⟩,e.id⟩) (u:=qei ⟨3,wx fs,fs⟩) rfl rfl (fun _=>rfl) rfl rfl rfl hm rfl rfl ?_)|exact cSd|apply qf []|refine exr ?_|refine qj ?_)
   all_goals (simp [List.map_set];done)
  |num m=>
   rw [hc,if_neg (by simp)] at h2
   rw [if_neg (by simp)]
   apply qi []
   repeat' (first|apply And.intro|(intro h;try exact cDd)|exact⟨Tryz.call77⟩|(refine js h1 ?_)|exact⟨Tryz.call229⟩|refine cpe h2 ?_|exact cSd|apply qf []|refine exr ?_|refine qj ?_)
  |at' a m=>
   rw [hc,if_neg (by simp)] at h2
   rw [if_neg (by simp)]
   apply qi []
   repeat' (first|apply And.intro|(intro h;try exact cDd)|exact⟨Tryz.call77⟩|(refine js h1 ?_)|exact⟨Tryz.call229⟩|refine cpe h2 ?_|exact cSd|apply qf []|refine exr ?_|refine qj ?_)
theorem q50 (n:Nat) (l:q8) (id:Int) (hB:LB n l):wu E 155 [.bx 0 0,.i id] 2 (hpF (lstH 1 l)) ⟨.a (errA (delF l id).1),wr (lstH 1 l),lstH 2 (delF l id).2++xd (lstH 1 l),3⟩:=by
 refine yp [.bx 0 0,.i id] (lstH 1 l) 2 (.a (errA (delF l id).1)) (lstH 2 (delF l id).2) 3 Tryz.func155 rfl rfl rfl rfl fun S F ρ=>?_
 have hle:=hB.len
 have hsm:=hB.small
 have h4:=hB.mn0
 have h5:=hB.mn1
 have h1:=qnz l id (by omega)
 unfold delF
 rcases qiu l id with h | ⟨i,e,h,he,hid,hid1⟩
 ·rw [h] at h1 ⊢
  rw [if_pos (by decide)]
  apply qi []
  repeat' (first|apply And.intro|(intro h;try exact cDd)|exact⟨Tryz.call77⟩|(refine js h1 ?_)|exact cSd|apply qf []|refine exr ?_|refine qj ?_)
 ·rw [h] at h1 ⊢
  rw [if_neg (by omega)]
  have hil:=lt_of_getElem? he
  have h2:=qk0 (f:=230) (E:=E) (xs:=l.ents.map entA) [Iv i,Iv ((i:Int)+1)] rfl (fun st c hc=>q6i l.ents i hil (by omega) st c hc)
  unfold delL
  rw [Int.toNat_natCast]
  apply qi []
  repeat' (first|apply And.intro|(intro h;try exact cDd)|exact⟨Tryz.call77⟩|(refine js h1 ?_)|exact⟨Tryz.call230⟩|(refine js h2 ?_)|exact cSd|apply qf []|refine exr ?_|refine qj ?_)
theorem q52 (n:Nat) (l:q8) (id:Int) (fs:List Fld) (hB:LB n l) (hK:KeyB fs) (hl:fs.length<1000000):wu E 156 [.bx 0 0,.i id,.a (vq fs)] 2 (hpF (lstH 1 l)) ⟨.tu [.i (insF l id fs).1,.a (errA (insF l id fs).2.1)],wr (lstH 1 l),lstH 2 (insF l id fs).2.2++xd (lstH 1 l),3⟩:=by
 refine yp [.bx 0 0,.i id,.a (vq fs)] (lstH 1 l) 2 (.tu [.i (insF l id fs).1,.a (errA (insF l id fs).2.1)]) (lstH 2 (insF l id fs).2.2) 3 Tryz.func156 rfl rfl rfl rfl fun S F ρ=>?_
 have hle:=hB.len
 have hsm:=hB.small
 have h4:=hB.mn0
 have h5:=hB.mn1
 have h6:=hB.nx0
 have h7:=hB.nx1
 have h1:=qnz l id (by omega)
 have h2:=fun st=>qvd fs st hK hl
 unfold insF
 rcases qiu l id with h | ⟨i,e,h,he,hid,hid1⟩
 ·rw [h] at h1 ⊢
  by_cases h0:id=0
  ·rw [if_neg (fun q=>q.2 h0)]
   rw [show ((-1:Int)+1).toNat=0 from rfl]
   unfold qa6 at h2 ⊢
   cases hc:vp fs with
   |no=>
    rw [hc,if_pos rfl] at h2
    rw [if_pos rfl,if_pos rfl]
    by_cases hm:400≤l.many
    ·rw [if_pos hm]
     apply qi []
     repeat' (first|apply And.intro|(intro h;try exact cDd)|exact⟨Tryz.call77⟩|(refine js h1 ?_)|exact⟨Tryz.call229⟩|refine cpe h2 ?_|exact cSd|apply qf []|refine exr ?_|refine qj ?_)
    ·rw [if_neg hm]
     have h3:=qk0 (f:=231) (E:=E) (xs:=l.ents.map entA) [Iv ((0:Nat):Int),.sl 4 [entA ⟨⟨3,wx fs,fs⟩,l.next⟩] none] rfl (fun st c hc=>qz6 l.ents ⟨⟨3,wx fs,fs⟩,l.next⟩ (0) (by omega) (by omega) st c hc)
     unfold insL
     apply qi []
     repeat' (first|apply And.intro|(intro h;try exact cDd)|exact⟨Tryz.call77⟩|(refine js h1 ?_)|exact⟨Tryz.call229⟩|refine cpe h2 ?_|exact⟨Tryz.call231⟩|(refine js h3 ?_)|exact cSd|apply qf []|refine exr ?_|refine qj ?_)
   |num m=>
    rw [hc,if_neg (by simp)] at h2
    rw [if_neg (by simp)]
    apply qi []
    repeat' (first|apply And.intro|(intro h;try exact cDd)|exact⟨Tryz.call77⟩|(refine js h1 ?_)|exact⟨Tryz.call229⟩|refine cpe h2 ?_|exact cSd|apply qf []|refine exr ?_|refine qj ?_)
   |at' a m=>
    rw [hc,if_neg (by simp)] at h2
    rw [if_neg (by simp)]
    apply qi []
    repeat' (first|apply And.intro|(intro h;try exact cDd)|exact⟨Tryz.call77⟩|(refine js h1 ?_)|exact⟨Tryz.call229⟩|refine cpe h2 ?_|exact cSd|apply qf []|refine exr ?_|refine qj ?_)
  ·rw [if_pos ⟨by decide,h0⟩]
   apply qi []
   repeat' (first|apply And.intro|(intro h;try exact cDd)|exact⟨Tryz.call77⟩|(refine js h1 ?_)|exact cSd|apply qf []|refine exr ?_|refine qj ?_)
 ·rw [h] at h1 ⊢
  have hil:=lt_of_getElem? he
  rw [if_neg (fun q=>absurd q.1 (by omega))]
  rw [show ((i:Int)+1).toNat=i+1 from rfl]
  unfold qa6 at h2 ⊢
  cases hc:vp fs with
  |no=>
   rw [hc,if_pos rfl] at h2
   rw [if_pos rfl,if_pos rfl]
   by_cases hm:400≤l.many
   ·rw [if_pos hm]
    apply qi []
    repeat' (first|apply And.intro|(intro h;try exact cDd)|exact⟨Tryz.call77⟩|(refine js h1 ?_)|exact⟨Tryz.call229⟩|refine cpe h2 ?_|exact cSd|apply qf []|refine exr ?_|refine qj ?_)
   ·rw [if_neg hm]
    have h3:=qk0 (f:=231) (E:=E) (xs:=l.ents.map entA) [Iv ((i+1:Nat):Int),.sl 4 [entA ⟨⟨3,wx fs,fs⟩,l.next⟩] none] rfl (fun st c hc=>qz6 l.ents ⟨⟨3,wx fs,fs⟩,l.next⟩ (i+1) (by omega) (by omega) st c hc)
    unfold insL
    apply qi []
    repeat' (first|apply And.intro|(intro h;try exact cDd)|exact⟨Tryz.call77⟩|(refine js h1 ?_)|exact⟨Tryz.call229⟩|refine cpe h2 ?_|exact⟨Tryz.call231⟩|(refine js h3 ?_)|exact cSd|apply qf []|refine exr ?_|refine qj ?_)
  |num m=>
   rw [hc,if_neg (by simp)] at h2
   rw [if_neg (by simp)]
   apply qi []
   repeat' (first|apply And.intro|(intro h;try exact cDd)|exact⟨Tryz.call77⟩|(refine js h1 ?_)|exact⟨Tryz.call229⟩|refine cpe h2 ?_|exact cSd|apply qf []|refine exr ?_|refine qj ?_)
  |at' a m=>
   rw [hc,if_neg (by simp)] at h2
   rw [if_neg (by simp)]
   apply qi []
   repeat' (first|apply And.intro|(intro h;try exact cDd)|exact⟨Tryz.call77⟩|(refine js h1 ?_)|exact⟨Tryz.call229⟩|refine cpe h2 ?_|exact cSd|apply qf []|refine exr ?_|refine qj ?_)
def qcy:Nat→List za→q8→List Int→ErrV×q8×List Int
 | _,[],l,ids=>(.no,l,ids)
 |k,x::r,l,ids=>if (oneF l x).2.1 = .no then qcy (k+1) r (oneF l x).2.2 (if 0<(oneF l x).1 then ids++[(oneF l x).1] else ids) else (.at' k (oneF l x).2.1.code,l,ids)
def doF (l:q8) (b:List za):ErrV×q8×List Int:=if eErr b = .no then qcy 0 b l [] else (eErr b,l,[])
def doA (r:ErrV×q8×List Int):AV:=match r.1 with
 | .no=>.tu [x9 r.2.1,qjy r.2.2,errA .no]
 |e=>.tu [.v (.pointer none),qjy [],errA e]
theorem q06 (r:ErrV×q8×List Int):Pure (doA r):=by
 unfold doA
 split
 ·exact qsw (qm1 _) (qe6 _) (yq _)
 ·exact qsw (zm _) (qe6 _) (yq _)
theorem qzm {l:q8} {x:za} (h:(oneF l x).2.1≠.no):(oneF l x).2.1.code≠0:=by
 have key:∀ fs:List Fld,vp fs≠.no→(vp fs).code≠0:=fun fs h h'=>h ((qiw fs).1 h')
 unfold oneF at h ⊢
 split
 ·rename_i h1
  rw [if_pos h1] at h
  unfold qc7 at h ⊢
  split
  ·exact (by decide:(ErrV.num 7).code≠0)
  ·rename_i h2
   rw [if_neg h2] at h
   split
   ·rename_i h3
    rw [if_pos h3] at h
    exact absurd rfl h
   ·exact key _ (by assumption)
 ·rename_i h1
  rw [if_neg h1] at h
  split
  ·rename_i h2
   rw [if_pos h2] at h
   unfold delF at h ⊢
   split
   ·exact (by decide:(ErrV.num 7).code≠0)
   ·rename_i h3
    rw [if_neg h3] at h
    exact absurd rfl h
  ·rename_i h2
   rw [if_neg h2] at h
   unfold insF at h ⊢
   split
   ·exact (by decide:(ErrV.num 7).code≠0)
   ·rename_i h3
    rw [if_neg h3] at h
    split
    ·rename_i h4
     rw [if_pos h4] at h
     split
     ·exact (by decide:(ErrV.num 11).code≠0)
     ·rename_i h5
      rw [if_neg h5] at h
      exact absurd rfl h
    ·exact key _ (by assumption)
theorem q5o (n:Nat) (l:q8) (x:za) (hB:LB n l) (hK:KeyB x.fields) (hl:x.fields.length<1000000):wu E 94 [.bx 0 0,.a (qbm x)] 2 (hpF (lstH 1 l)) ⟨.tu [.i (oneF l x).1,.a (errA (oneF l x).2.1)],wr (lstH 1 l),lstH 2 (oneF l x).2.2++xd (lstH 1 l),3⟩:=by
 refine yp [.bx 0 0,.a (qbm x)] (lstH 1 l) 2 (.tu [.i (oneF l x).1,.a (errA (oneF l x).2.1)]) (lstH 2 (oneF l x).2.2) 3 Tryz.func94 rfl rfl rfl rfl fun S F ρ=>?_
 unfold oneF
 by_cases h1:x.kind=1
 ·rw [if_pos h1]
  have hc:=q39 n l x.id x.fields hB hK hl
  generalize qc7 l x.id x.fields=r at hc
  apply qi []
  repeat' (first|apply And.intro|(intro h;try exact cDd)|exact⟨Tryz.call154⟩|(refine js hc ?_)|exact cSd|apply qf []|refine exr ?_|refine qj ?_)
 ·rw [if_neg h1]
  by_cases h2:x.kind=2
  ·rw [if_pos h2]
   have hc:=q50 n l x.id hB
   generalize delF l x.id=r at hc
   apply qi []
   repeat' (first|apply And.intro|(intro h;try exact cDd)|exact⟨Tryz.call155⟩|(refine js hc ?_)|exact cSd|apply qf []|refine exr ?_|refine qj ?_)
  ·rw [if_neg h2]
   have hc:=q52 n l x.id x.fields hB hK hl
   generalize insF l x.id x.fields=r at hc
   apply qi []
   repeat' (first|apply And.intro|(intro h;try exact cDd)|exact⟨Tryz.call156⟩|(refine js hc ?_)|exact cSd|apply qf []|refine exr ?_|refine qj ?_)
theorem q2w (n:Nat) (l:q8) (b:List za) (st:List AObj) (hB:LB n l) (hn:n+40<900000) (hE:∀ x∈b,EdB x) (hl:b.length<1000000):qn E 46 [x9 l,qai b] st fun r st'=>r=doA (doF l b)∧st'=st:=by
 refine qsv [.a (x9 l),.a (qai b)] (q06 _) Tryz.func46 rfl rfl (fun _=>rfl) rfl fun S0=>?_
 have hck:=fun st=>q1b b st _ rfl hE (by omega)
 unfold doF
 cases he:eErr b with
 |num m=>
  rw [he] at hck
  rw [if_neg (by simp)]
  apply qi []
  repeat' (first|apply And.intro|(intro h;try exact cDd)|exact⟨Tryz.call92⟩|refine cpe hck ?_|exact cSd|apply qf []|refine exr ?_|refine qj ?_)
 |at' a m=>
  rw [he] at hck
  rw [if_neg (by simp)]
  apply qi []
  repeat' (first|apply And.intro|(intro h;try exact cDd)|exact⟨Tryz.call92⟩|refine cpe hck ?_|exact cSd|apply qf []|refine exr ?_|refine qj ?_)
 |no=>
  rw [he] at hck
  rw [if_pos rfl]
  obtain⟨hb1,hb40,hg⟩:=qn2 he
  have hcp:=q33 l (by have:=hB.len;omega)
  apply qi []
  repeat' (first|apply And.intro|(intro h;try exact cDd)|exact⟨Tryz.call92⟩|refine cpe hck ?_|exact⟨Tryz.call93⟩|(refine js hcp ?_)|exact cSd|apply qf []|refine exr ?_|refine qj ?_)
  refine wq (X:=Nat×q8×List Int) (fun (k,q,ids)=>⟨[(8,.bx 0 0),(9,.tp 2),(21,.a (qai b)),(22,.i b.length),(23,.i k)],[(0,some (.cells 156 [.tp 1,.i q.next,.i q.many])),(1,some (.own 4 152 (q.ents.map entA))),(2,some (.tip 1 3 (ids.map fun x=>Iv x)))],3⟩)
   (fun (k,q,ids)=>k≤b.length∧LB (n+k) q∧ids.length≤k∧qcy k (b.drop k) q ids=qcy 0 b l []) (fun (k,q,ids)=>b.length - k) (0,l,[]) ⟨by omega,hB,by simp,rfl⟩ ?_ ?_
  ·skip
   repeat' (first|apply And.intro|(intro h;try exact cDd)|exact cSd|apply qf []|refine exr ?_|refine qj ?_)
   all_goals (simp;done)
  ·rintro⟨k,q,ids⟩ ⟨hk,hq,hil,hrun⟩
   by_cases hkn:k<b.length
   ·have hx:b[k]? = some b[k]:=List.getElem?_eq_getElem hkn
    have hxm:(b.map qbm)[k]? = some (qbm b[k]):=by rw [List.getElem?_map,hx];rfl
    have hxE:=hE b[k] (List.getElem_mem hkn)
    have hxf:=(qu3 (hg b[k] (List.getElem_mem hkn))).1
    rw [List.drop_eq_getElem_cons hkn,qcy] at hrun
    have hidl:(ids.map fun x=>Iv x).length=ids.length:=by simp
    generalize b[k]=x at hx hxm hxE hxf hrun
    have hon:=q5o (n+k) q x hq hxE.keys (by omega)
    have hlb:=qva hq (by omega) x
    have hcd:=fun h=>qzm (l:=q) (x:=x) h
    generalize oneF q x=o at hon hlb hcd hrun
    obtain⟨id,e,q'⟩:=o
    dsimp only at hon hlb hcd hrun
    cases e with
    |no=>
     rw [if_pos rfl] at hrun
     by_cases h0:0<id
     ·rw [if_pos h0] at hrun
      apply qi []
      repeat' (first|apply And.intro|(intro h;try exact cDd)|(refine Exists.intro (k) ⟨by omega,_,hxm,?_⟩)|exact⟨Tryz.call94⟩|(refine js hon ?_)|(refine Exists.intro (k+1,q',ids++[id]) ⟨⟨by omega,hlb,by simp;omega,hrun⟩,by simp only;omega,?_⟩)|exact cSd|apply qf []|refine exr ?_|refine qj ?_)
      all_goals first|(simp;done)|(simp;omega)
     ·rw [if_neg h0] at hrun
      apply qi []
      repeat' (first|apply And.intro|(intro h;try exact cDd)|(refine Exists.intro (k) ⟨by omega,_,hxm,?_⟩)|exact⟨Tryz.call94⟩|(refine js hon ?_)|(refine Exists.intro (k+1,q',ids) ⟨⟨by omega,hlb,by first|omega|(simp only;omega),hrun⟩,by simp only;omega,?_⟩)|exact cSd|apply qf []|refine exr ?_|refine qj ?_)
      all_goals first|(simp;done)|(simp;omega)
    |num m=>
     rw [if_neg (by simp)] at hrun
     rw [← hrun]
     have hft:=fun st=>qk3 k (.num m) st (hcd (by simp))
     apply qi []
     repeat' (first|apply And.intro|(intro h;try exact cDd)|(refine Exists.intro (k) ⟨by omega,_,hxm,?_⟩)|exact⟨Tryz.call94⟩|(refine js hon ?_)|exact⟨Tryz.call95⟩|refine cpe hft ?_|exact cSd|apply qf []|refine exr ?_|refine qj ?_)
    |at' a m=>
     rw [if_neg (by simp)] at hrun
     rw [← hrun]
     have hft:=fun st=>qk3 k (.at' a m) st (hcd (by simp))
     apply qi []
     repeat' (first|apply And.intro|(intro h;try exact cDd)|(refine Exists.intro (k) ⟨by omega,_,hxm,?_⟩)|exact⟨Tryz.call94⟩|(refine js hon ?_)|exact⟨Tryz.call95⟩|refine cpe hft ?_|exact cSd|apply qf []|refine exr ?_|refine qj ?_)
   ·have hkn:k=b.length:=by omega
    subst hkn
    rw [List.drop_length,qcy] at hrun
    rw [← hrun]
    apply qi []
    repeat' (first|apply And.intro|(intro h;try exact cDd)|exact cSd|apply qf []|refine exr ?_|refine qj ?_)
theorem qd7 {n m:Nat} {l:q8} (h:LB n l) (hm:n≤m) (hs:m<900000):LB m l:=by
 have h1:=h.len;have h2:=h.nx0;have h3:=h.nx1;have h4:=h.mn0;have h5:=h.mn1
 exact⟨hs,by omega,h2,by omega,by omega,by omega⟩
theorem qo1:∀ (b:List za) (k n:Nat) (l:q8) (ids:List Int),LB n l→n+b.length<900000→LB (n+b.length) (qcy k b l ids).2.1
 | [],k,n,l,ids,h,_=>h
 |x::r,k,n,l,ids,h,hs=>by
  simp only [List.length_cons] at hs ⊢
  unfold qcy
  split
  ·have:=qo1 r (k+1) (n+1) (oneF l x).2.2 (if 0<(oneF l x).1 then ids++[(oneF l x).1] else ids) (qva h (by omega) x) (by omega)
   rw [show n+(r.length+1)=n+1+r.length by omega]
   exact this
  ·have h1:=h.len;have h2:=h.nx0;have h3:=h.nx1;have h4:=h.mn0;have h5:=h.mn1
   exact⟨by omega,by simp only;omega,h2,by simp only;omega,by simp only;omega,by simp only;omega⟩
theorem qyo {n:Nat} {l:q8} (h:LB n l) (hs:n+40<900000) (b:List za):LB (n+40) (doF l b).2.1:=by
 unfold doF
 split
 ·rename_i he
  obtain⟨h1,h2,_⟩:=qn2 he
  exact qd7 (qo1 b 0 n l [] h (by omega)) (by omega) hs
 ·exact qd7 h (by omega) hs
theorem qzk:∀ (its:List ja) (n:Nat) (l:q8),LB n l→n+its.length<900000→LB (n+its.length) (its.foldl qbv l)
 | [],n,l,h,_=>h
 |x::r,n,l,h,hs=>by
  simp only [List.length_cons] at hs ⊢
  rw [List.foldl_cons,show n+(r.length+1)=n+1+r.length by omega]
  refine qzk r (n+1) _ ?_ (by omega)
  have h1:=h.len;have h2:=h.nx0;have h3:=h.nx1;have h4:=h.mn0;have h5:=h.mn1
  unfold qbv
  split
  ·exact⟨by omega,by simp;omega,by simp only;omega,by simp only;omega,by simp only;omega,by simp only;omega⟩
  ·exact⟨by omega,by simp;omega,h2,by simp only;omega,by simp only;omega,by simp only;omega⟩
theorem q59 (text:qd):LB 300000 (ofF (itsE text)):=by
 have h:=qr3 text
 have:=qzk (itsE text) 0 ⟨[],1,0⟩ ⟨by omega,by simp,by simp,by simp,by simp,by simp⟩ (by omega)
 exact qd7 this (by omega) (by omega)
end Go.Proofs.YtneejjefekdgjaaGreatDoor
namespace Go.Pl
open Go Go.Proofs Go.Proofs.YtneejjefekdgjaaGreatDoor
def trL (ls:List qd):List (qd×Bool):=ls.map fun s=>(s,true)
def now0:ja:=⟨2,[],[]⟩
def blkR:Bool→ja→List qd→Option ja
 | _,now,[]=>some now
 |prev,now,t::r=>
  if vo prev t true (trL r) now.fields.length 0≠0∨qq t=1 then none
  else if qq t=4 then blkR true ⟨3,now.raw++t++[10],now.fields++[(jm (t::vv (trL r))).1]⟩ r
  else blkR (decide (qq t=3)) ⟨now.kind,now.raw++t++[10],now.fields⟩ r
def qvt:List (qd×Bool)→Prop
 | []=>True
 |(t,_)::_=>qq t=1
theorem qje:∀ (ls:List qd) (rest:List (qd×Bool)),qvt rest→vv (trL ls++rest)=vv (trL ls)
 | [],[],_=>rfl
 | [],(t,e)::r,h=>by
  have h:qq t=1:=h
  show (if qq t=3 then _ else _)=_
  rw [if_neg (by omega)]
  rfl
 |t::r,rest,h=>by
  show (if qq t=3 then t::vv (trL r++rest) else [])=(if qq t=3 then t::vv (trL r) else [])
  rw [qje r rest h]
theorem qnt (prev:Bool) (t:qd) (ls:List qd) (rest:List (qd×Bool)) (n:Nat) (rec:Int) (h:qvt rest):vo prev t true (trL ls++rest) n rec=vo prev t true (trL ls) n rec:=by
 unfold vo
 rw [qje ls rest h]
theorem qnu {prev:Bool} {t:qd} {e:Bool} {L:List (qd×Bool)} {n:Nat} {rec:Int} (h:vo prev t e L n rec=0):vo prev t e L n 0=0:=by
 unfold vo at h ⊢
 split
 ·rename_i h1;rw [if_pos h1] at h;exact h
 ·rename_i h1
  rw [if_neg h1] at h
  split
  ·rfl
  ·rename_i h4
   rw [if_neg h4] at h
   split
   ·rename_i hu;rw [if_pos hu] at h;exact h
   ·rename_i hu
    rw [if_neg hu] at h
    rw [if_neg]
    intro hh
    rcases hh with hh|hh
    ·rw [if_pos (.inl hh)] at h;omega
    ·omega
theorem q0m {prev:Bool} {t:qd} {e:Bool} {L:List (qd×Bool)} {n:Nat} {rec:Int} (h:vo prev t e L n rec=0):e=true∧10∉t:=by
 unfold vo at h
 split at h
 ·omega
 ·rename_i h1
  refine⟨by cases e with|true=>rfl|false=>exact absurd (.inr (.inr rfl)) h1,fun h10=>h1 (.inl ?_)⟩
  unfold qq
  rw [if_pos h10]
def qxw (x:ja):Prop:=x.kind=3∧x.fields≠[]∨x.kind=2∧x.fields=[]
theorem qof:∀ (L:List (qd×Bool)) (k:Nat) (prev:Bool) (now:ja) (rec:Int) (out its:List ja),refL k L prev now rec out=(none,its) →
  ∃ (ls:List qd) (rest:List (qd×Bool)) (prev':Bool) (x:ja) (rec':Int) (k':Nat),L=trL ls++rest∧qvt rest∧blkR prev now ls=some x∧refL k' rest prev' x rec' out=(none,its)∧∀ t∈ls,10∉t
 | [],k,prev,now,rec,out,its,h=>⟨[],[],prev,now,rec,k,rfl,trivial,rfl,h,by simp⟩
 |(t,e)::r,k,prev,now,rec,out,its,h=>by
  have h0:=h
  rw [refL] at h
  split at h
  ·simp at h
  ·rename_i hw
   have hw:=Classical.not_not.1 hw
   obtain⟨rfl,h10⟩:=q0m hw
   split at h
   ·rename_i h1
    exact⟨[],(t,true)::r,prev,now,rec,k,rfl,h1,rfl,h0,by simp⟩
   ·rename_i h1
    split at h
    ·rename_i h4
     obtain⟨ls,rest,p',x,rc,k',rfl,hs,hb,hr,hten⟩:=qof r _ _ _ _ _ _ h
     rw [qje ls rest hs] at hb
     rw [qnt _ _ _ _ _ _ hs] at hw
     refine⟨t::ls,rest,p',x,rc,k',rfl,hs,?_,hr,by simpa using ⟨h10,hten⟩⟩
     rw [blkR,if_neg (by simp [qnu hw,h1]),if_pos h4]
     exact hb
    ·rename_i h4
     obtain⟨ls,rest,p',x,rc,k',rfl,hs,hb,hr,hten⟩:=qof r _ _ _ _ _ _ h
     rw [qnt _ _ _ _ _ _ hs] at hw
     refine⟨t::ls,rest,p',x,rc,k',rfl,hs,?_,hr,by simpa using ⟨h10,hten⟩⟩
     rw [blkR,if_neg (by simp [qnu hw,h1]),if_neg h4]
     exact hb
def qca (x:ja):Prop:=(∃ t,x=⟨1,t++[10],[]⟩∧qq t=1)∨∃ ls,ls≠[]∧blkR false now0 ls=some x∧∀ t∈ls,10∉t
theorem qz1:∀ (n:Nat) (L:List (qd×Bool)) (k:Nat) (rec:Int) (out its:List ja),L.length≤n→refL k L false now0 rec out=(none,its)→(∀ x∈out,qca x)→∀ x∈its,qca x:=by
 intro n
 induction n with
 |zero=>
  intro L k rec out its hn h ho
  have:L=[]:=List.length_eq_zero_iff.1 (by omega)
  subst this
  have h:(none,outR now0 out)=(none,its):=h
  simp only [Prod.mk.injEq,true_and] at h
  subst h
  exact ho
 |succ n ih=>
  intro L k rec out its hn h ho
  obtain⟨ls,rest,p',x,rc,k',rfl,hs,hb,hr,hten⟩:=qof L _ _ _ _ _ _ h
  have hout:∀ y∈outR x out,qca y:=fun y hy=>by
   unfold outR at hy
   split at hy
   ·exact ho y hy
   ·rename_i hx
    rcases List.mem_append.1 hy with hy|hy
    ·exact ho y hy
    ·simp only [List.mem_cons,List.not_mem_nil,or_false] at hy
     subst hy
     refine .inr ⟨ls,fun e=>hx ?_,hb,hten⟩
     subst e
     cases hb
     rfl
  cases rest with
  |nil=>
   have hr:(none,outR x out)=(none,its):=hr
   simp only [Prod.mk.injEq,true_and] at hr
   subst hr
   exact hout
  |cons y r=>
   obtain⟨t,e⟩:=y
   have h1:qq t=1:=hs
   rw [refL] at hr
   split at hr
   ·simp at hr
   ·try rw [if_pos h1] at hr
    refine ih r _ _ _ _ (by simp at hn;omega) hr fun y hy=>?_
    rcases List.mem_append.1 hy with hy|hy
    ·exact hout y hy
    ·simp only [List.mem_cons,List.not_mem_nil,or_false] at hy
     subst hy
     exact .inl ⟨t,rfl,h1⟩
theorem qji {text:qd} (h:(yg text).1=none):∀ x∈(yg text).2,qca x:=by
 refine qz1 _ (kf text) 0 0 [] _ (Nat.le_refl _) ((qgw text).trans (Prod.ext h rfl)) (by simp)
theorem qt1 {fs:List Fld} (hg:GF fs) (hne:fs≠[]):qca ⟨3,wx fs,fs⟩:=by
 have h:=qxb hg hne
 exact qji (by rw [h]) _ (by rw [h];simp)
def cntI (its:List ja):Nat:=its.countP fun x=>x.kind=3
theorem qar (a b:List ja):cntI (a++b)=cntI a+cntI b:=by simp [cntI]
theorem yz (x:ja) (b:List ja):cntI (x::b)=(if x.kind=3 then 1 else 0)+cntI b:=by
 simp only [cntI,List.countP_cons,decide_eq_true_eq]
 omega
theorem qsn {now:ja} {out:List ja} (hk:qxw now) (hr:now.kind=3→now.raw≠[]):(cntI (outR now out):Int)=(cntI out:Int)+(if now.kind=3 then 1 else 0):=by
 have h0:cntI []=0:=rfl
 unfold outR
 by_cases he:now.raw=[]
 ·rw [if_pos he,if_neg fun h=>hr h he]
  omega
 ·rw [if_neg he,qar,yz,h0]
  by_cases h3:now.kind=3
  ·rw [if_pos h3,if_pos h3];omega
  ·rw [if_neg h3,if_neg h3];omega
theorem qj4:∀ (L:List (qd×Bool)) (k:Nat) (prev:Bool) (now:ja) (rec:Int) (out its:List ja),refL k L prev now rec out=(none,its)→qxw now→(now.kind=3→now.raw≠[])→(cntI out:Int)+(if now.kind=3 then 1 else 0)=rec→rec≤400→cntI its≤400
 | [],k,prev,now,rec,out,its,h,hk,hr,hc,hm=>by
  have h:(none,outR now out)=(none,its):=h
  simp only [Prod.mk.injEq,true_and] at h
  subst h
  have:=qsn (out:=out) hk hr
  omega
 |(t,e)::r,k,prev,now,rec,out,its,h,hk,hr,hc,hm=>by
  rw [refL] at h
  split at h
  ·simp at h
  ·rename_i hw
   have hw:=Classical.not_not.1 hw
   split at h
   ·refine qj4 r _ _ _ _ _ _ h (.inr ⟨rfl,rfl⟩) (by simp) ?_ hm
    have:=qsn (out:=out) hk hr
    rw [qar,yz,show cntI []=0 from rfl,if_neg (by omega:¬ (1:Int)=3),if_neg (by omega:¬ (2:Int)=3)]
    omega
   ·split at h
    ·rename_i h4
     refine qj4 r _ _ _ _ _ _ h (.inl ⟨rfl,by simp⟩) (by simp) ?_ ?_
     ·rcases hk with hk|hk
      ·rw [if_pos hk.1] at hc
       rw [if_pos rfl,if_neg (by omega)]
       exact hc
      ·rw [if_neg (by omega)] at hc
       rw [if_pos rfl,if_pos hk.1]
       omega
     ·rcases hk with hk|hk
      ·rw [if_neg (by omega)];exact hm
      ·rw [if_pos hk.1]
       unfold vo at hw
       split at hw
       ·omega
       ·rw [if_neg (by omega)] at hw
        split at hw
        ·omega
        ·split at hw
         ·omega
         ·rename_i hf
          have:now.fields.length=0:=by rw [hk.2];rfl
          omega
    ·exact qj4 r _ _ _ _ _ _ h hk (fun h3=>by simp) hc hm
theorem qzw {text:qd} (h:(yg text).1=none):cntI (yg text).2≤400:=
 qj4 (kf text) 0 false now0 0 [] _ ((qgw text).trans (Prod.ext h rfl)) (.inr ⟨rfl,rfl⟩) (by simp [now0]) (by simp [cntI,now0]) (by omega)
structure GL (l:q8):Prop where
 ok:∀ e∈l.ents,qca e.x∧(0<e.id↔e.x.kind=3)
 nx:1≤l.next
 mn:l.many=cntI (x2 l)
 le:cntI (x2 l)≤400
theorem qzl {l:q8} {x:ja} (h:GL l) (hx:qca x) (hc:cntI (x2 l)+cntI [x]≤400):GL (qbv l x):=by
 obtain⟨h1,h2,h3,h4⟩:=h
 rw [yz] at hc
 unfold qbv
 by_cases hk:x.kind=3
 ·rw [if_pos hk]
  refine⟨fun e he=>?_,by simp only;omega,?_,?_⟩
  ·rcases List.mem_append.1 he with he|he
   ·exact h1 e he
   ·simp only [List.mem_cons,List.not_mem_nil,or_false] at he
    subst he
    exact⟨hx,fun _=>hk,fun _=>by show 0<l.next;omega⟩
  ·simp only [x2,List.map_append,qar,List.map_cons,List.map_nil,yz] at h3 ⊢
   rw [if_pos hk]
   simp [cntI] at h3 ⊢
   omega
  ·rw [if_pos hk] at hc
   simp only [x2,List.map_append,qar,List.map_cons,List.map_nil,yz] at hc ⊢
   rw [if_pos hk]
   exact hc
 ·rw [if_neg hk]
  refine⟨fun e he=>?_,h2,?_,?_⟩
  ·rcases List.mem_append.1 he with he|he
   ·exact h1 e he
   ·simp only [List.mem_cons,List.not_mem_nil,or_false] at he
    subst he
    exact⟨hx,by simp [hk]⟩
  ·simp only [x2,List.map_append,qar,List.map_cons,List.map_nil,yz] at h3 ⊢
   rw [if_neg hk]
   simp [cntI] at h3 ⊢
   omega
  ·rw [if_neg hk] at hc
   simp only [x2,List.map_append,qar,List.map_cons,List.map_nil,yz] at hc ⊢
   rw [if_neg hk]
   exact hc
theorem qt7 (l:q8) (x:ja):x2 (qbv l x)=x2 l++[x]:=by
 unfold qbv x2
 split <;> simp
theorem qpc:∀ (its:List ja) (l:q8),GL l→(∀ x∈its,qca x)→cntI (x2 l)+cntI its≤400→GL (its.foldl qbv l)
 | [],l,h,_,_=>h
 |x::r,l,h,hx,hc=>by
  rw [yz] at hc
  refine qpc r (qbv l x) (qzl h (hx x (by simp)) ?_) (fun y hy=>hx y (by simp [hy])) ?_
  ·rw [yz,show cntI []=0 from rfl];omega
  ·rw [qt7,qar,yz]
   rw [show cntI []=0 from rfl]
   omega
theorem q58 {its:List ja} (hx:∀ x∈its,qca x) (hc:cntI its≤400):GL (ofF its):=
 qpc its ⟨[],1,0⟩ ⟨by simp,by simp,by simp [x2,cntI],by simp [x2,cntI]⟩ hx (by simpa [x2,cntI] using hc)
theorem qsu {fs:List Fld} (h:vp fs = .no):qca (qa6 fs)∧(qa6 fs).kind=3:=by
 obtain⟨h1,h2,h3⟩:=qhj h
 unfold qa6
 rw [if_pos h]
 exact⟨qt1 ⟨h2,h3⟩ h1,rfl⟩
theorem qiy {l:List ja} {i:Nat} {x:ja} (h:l[i]? = some x):cntI l=cntI (l.take i)+(if x.kind=3 then 1 else 0)+cntI (l.drop (i+1)):=by
 obtain⟨hlt,rfl⟩:=List.getElem?_eq_some_iff.1 h
 have:=congrArg cntI (List.take_append_drop i l)
 rw [qar,List.drop_eq_getElem_cons hlt,yz] at this
 omega
theorem q19 {l:q8} (h:GL l) (id:Int) (fs:List Fld):GL (qc7 l id fs).2:=by
 unfold qc7
 split
 ·exact h
 ·rename_i ha
  split
  ·rename_i hf
   obtain⟨hp,hp3⟩:=qsu hf
   rcases qiu l id with g | ⟨i,e,g1,g2,g3,g4⟩
   ·omega
   ·rw [g1,Int.toNat_natCast]
    unfold qql
    rw [g2]
    simp only
    have hem:=List.mem_of_getElem? g2
    obtain⟨hlt,hge⟩:=List.getElem?_eq_some_iff.1 g2
    have hek:e.x.kind=3:=(h.ok e hem).2.1 (by omega)
    have hcnt:cntI ((l.ents.set i ⟨qa6 fs,e.id⟩).map fun e=>e.x)=cntI (l.ents.map fun e=>e.x):=by
     have a1:=qiy (l:=l.ents.map fun e=>e.x) (i:=i) (x:=e.x) (by simp [g2])
     have a2:=qiy (l:=(l.ents.set i ⟨qa6 fs,e.id⟩).map fun e=>e.x) (i:=i) (x:=qa6 fs) (by simp [hlt])
     rw [a1,a2,← List.map_take,← List.map_take,← List.map_drop,← List.map_drop,List.take_set_of_le (Nat.le_refl _),List.drop_set_of_lt (by omega),hek,hp3]
    refine⟨fun y hy=>?_,h.nx,?_,?_⟩
    ·rcases List.mem_or_eq_of_mem_set hy with hy|rfl
     ·exact h.ok y hy
     ·exact⟨hp,fun _=>hp3,fun _=>by show 0<e.id;omega⟩
    ·exact h.mn.trans (congrArg Int.ofNat hcnt).symm
    ·exact Nat.le_trans (Nat.le_of_eq hcnt) h.le
  ·exact h
theorem q3m {l:q8} (h:GL l) (id:Int):GL (delF l id).2:=by
 unfold delF
 split
 ·exact h
 ·rcases qiu l id with g | ⟨i,e,g1,g2,g3,g4⟩
  ·omega
  ·rw [g1,Int.toNat_natCast]
   have hem:=List.mem_of_getElem? g2
   have hek:e.x.kind=3:=(h.ok e hem).2.1 (by omega)
   have a1:=qiy (l:=x2 l) (i:=i) (x:=e.x) (by simp [x2,g2])
   rw [hek,if_pos rfl] at a1
   have a2:cntI (x2 (delL l i))=cntI ((x2 l).take i)+cntI ((x2 l).drop (i+1)):=by
    unfold delL x2
    rw [List.map_append,qar,List.map_take,List.map_drop]
   have hm:=h.mn
   have hl:=h.le
   refine⟨fun y hy=>?_,h.nx,?_,?_⟩
   ·rcases List.mem_append.1 hy with hy|hy
    ·exact h.ok y (List.mem_of_mem_take hy)
    ·exact h.ok y (List.mem_of_mem_drop hy)
   ·rw [a2]
    show l.many - 1=_
    omega
   ·rw [a2]
    omega
theorem q3x {l:q8} (h:GL l) (id:Int) (fs:List Fld):GL (insF l id fs).2.2:=by
 unfold insF
 split
 ·exact h
 ·split
  ·rename_i hf
   obtain⟨hp,hp3⟩:=qsu hf
   split
   ·exact h
   ·rename_i hm4
    generalize (atF l id+1).toNat=k
    have a1:cntI (x2 (insL l k (qa6 fs)))=cntI (x2 l)+1:=by
     unfold insL x2
     rw [List.map_append,qar,List.map_cons,yz,hp3,if_pos rfl,List.map_take,List.map_drop]
     have:=congrArg cntI (List.take_append_drop k (l.ents.map fun e=>e.x))
     rw [qar] at this
     omega
    have hm:=h.mn
    have hl:=h.le
    have hn:=h.nx
    refine⟨fun y hy=>?_,?_,?_,?_⟩
    ·rcases List.mem_append.1 hy with hy|hy
     ·exact h.ok y (List.mem_of_mem_take hy)
     ·rcases List.mem_cons.1 hy with rfl|hy
      ·exact⟨hp,fun _=>hp3,fun _=>by show 0<l.next;omega⟩
      ·exact h.ok y (List.mem_of_mem_drop hy)
    ·show 1≤l.next+1
     omega
    ·rw [a1]
     show l.many+1=_
     omega
    ·rw [a1]
     omega
  ·exact h
theorem q4h {l:q8} (h:GL l) (x:za):GL (oneF l x).2.2:=by
 unfold oneF
 split
 ·exact q19 h _ _
 ·split
  ·exact q3m h _
  ·exact q3x h _ _
theorem qo0:∀ (b:List za) (k:Nat) (l:q8) (ids:List Int),GL l→GL (qcy k b l ids).2.1
 | [],_,l,_,h=>h
 |x::r,k,l,ids,h=>by
  unfold qcy
  split
  ·exact qo0 r _ _ _ (q4h h x)
  ·exact h
theorem qyn {l:q8} (h:GL l) (b:List za):GL (doF l b).2.1:=by
 unfold doF
 split
 ·exact qo0 b 0 l [] h
 ·exact h
theorem quh {text:qd} (h:qbw text = .no):(yg text).1=none∧text.length≤60000∧itsE text=(yg text).2:=by
 unfold qbw at h
 unfold itsE
 split at h
 ·simp at h
 ·rename_i hl
  rw [if_neg hl]
  refine⟨?_,by omega,rfl⟩
  cases hp:(yg text).1 with
  |none=>rfl
  |some x=>rw [hp] at h;simp at h
theorem qck (a b:List qd):z6 (a++b)=z6 a++z6 b:=by simp [z6]
end Go.Pl
namespace Go.Pl
open Go Go.Proofs
def qa5:List EntV→Option (EntV×List EntV)
 | []=>none
 |e::r=>if 0<e.id then some (e,r) else qa5 r
def stzF (es:List EntV):List (Int×List Fld):=(es.filter fun e=>decide (0<e.id)).map fun e=>(e.id,e.x.fields)
theorem qm4:∀ {r:List EntV},qa5 r=none→stzF r=[]
 | [],_=>rfl
 |e::r,h=>by
  unfold qa5 at h
  split at h
  ·simp at h
  ·rename_i h0
   have:=qm4 h
   simpa [stzF,h0] using this
theorem qm5:∀ {r:List EntV} {e:EntV} {q:List EntV},qa5 r=some (e,q)→0<e.id∧e∈r∧stzF r=(e.id,e.x.fields)::stzF q∧q.length<r.length∧∀ y∈q,y∈r
 |x::r,e,q,h=>by
  unfold qa5 at h
  split at h
  ·rename_i h0
   simp only [Option.some.injEq,Prod.mk.injEq] at h
   obtain⟨rfl,rfl⟩:=h
   exact⟨h0,by simp,by simp [stzF,h0],by simp,fun y hy=>by simp [hy]⟩
  ·rename_i h0
   obtain⟨h1,h2,h3,h4,h5⟩:=qm5 h
   exact⟨h1,by simp [h2],by simpa [stzF,h0] using h3,by simp;omega,fun y hy=>by simp [h5 y hy]⟩
end Go.Pl
namespace Go.Proofs.YtneejjefekdgjaaGreatDoor
open Go Go.Av Go.RowKit Go.Proofs Go.Pl
theorem q6c {m:Nat} {T:TypeId} {S':List AObj} {cs0:List AV} (h:S'.length=m∨∃ cs,S'[m]? = some (.cells 0 T cs)):∃ cs,(S'++[AObj.cells 0 T cs0])[m]? = some (.cells 0 T cs):=by
 rcases h with rfl | ⟨cs,h⟩
 ·exact⟨cs0,by simp⟩
 ·exact⟨cs,by rw [List.getElem?_append_left (lt_of_getElem? h)];exact h⟩
theorem q6d {m:Nat} {T:TypeId} {S':List AObj} (h:S'.length=m∨∃ cs,S'[m]? = some (.cells 0 T cs)):m≤S'.length:=by
 rcases h with rfl | ⟨cs,h⟩
 ·omega
 ·exact Nat.le_of_lt (lt_of_getElem? h)
theorem qoj {L:List (Tmp×AV)} {st:List AObj} {df:List Nat} {s:AS} (h:StA L st df s):StA L (st++[]) df s:=by
 rw [List.append_nil]
 exact h
theorem q28 (l:q8) (o kb n m:Nat) (I:List EntV→List AObj→Prop) (D:List AObj→Prop) (S:List AObj) (hm:S.length=m) (hn:n≤m) (hl:l.ents.length<1000000) (h0:I l.ents S)
  (hI:∀ r S',I r S'→S'[kb]? = some (.cells 0 42 [x9 l]))
  (hst:∀ r S' S'',Ext n S' S''→I r S'→I r S'')
  (hY:∀ r e q S' cs,I r S'→S'[m]? = some (.cells 0 152 cs)→qa5 r=some (e,q)→qb9 E o [entA e] S' fun b S''=>S''[m]? = some (.cells 0 152 cs)∧(b=true→I q S'')∧(b=false→D S'')) :
  qn E 128 [.yd o,.bx kb 0 0] S fun r S'=>(∃ i,qa5 i=none∧I i S')∨D S':=by
 refine qx Tryz.func128 rfl (Nat.le_of_ble_eq_true rfl) ?_
 have hb:=hI _ S h0
 have hmi:(l.ents.map entA).length=l.ents.length:=by simp
 repeat' (first|apply qv|apply zw|apply qm|apply qk|apply qp|(apply qc;exact rfl;apply cd_f;exact cRa)|(apply zl;(iterate 4 exact rfl))|(apply q7;(iterate 4 exact rfl))|(apply zf;(iterate 3 exact rfl))|(apply zi;exact rfl;exact rfl)|(apply zq;(iterate 3 exact rfl))|apply q9|(apply qik;exact rfl;exact rfl;exact hb;exact rfl;exact rfl))
 refine qcd (fun (k:Nat) s=>∃ S' r,I r S'∧(S'.length=m∨∃ cs,S'[m]? = some (.cells 0 152 cs))∧k≤l.ents.length∧qa5 r=qa5 (l.ents.drop k)∧StA [(0,.yd o),(10,.sl 4 (l.ents.map entA) none),(11,Iv l.ents.length),(12,Iv k)] (S'++[]) [] s) (fun k=>l.ents.length - k) 0
  ⟨_,_,hst _ _ _ (qff (by omega)) h0,.inl (by simpa using hm),by omega,by simp,qoj (qac ⟨rfl,rfl,congrArg (fun n:Nat=>Iv (n:Int)) hmi,rfl,trivial⟩)⟩ ?_
 rintro k _ ⟨S',r,hi,hown,hk,hnx,t,rfl⟩
 have hml:=q6d hown
 by_cases hkn:k<l.ents.length
 ·have hx:l.ents[k]? = some l.ents[k]:=List.getElem?_eq_getElem hkn
  have hxm:(l.ents.map entA)[k]? = some (entA l.ents[k]):=by rw [List.getElem?_map,hx];rfl
  rw [List.drop_eq_getElem_cons hkn,qa5] at hnx
  generalize l.ents[k]=e at hx hxm hnx
  obtain⟨cs,hcs⟩:=q6c (cs0:=(entA e).cells) hown
  by_cases he:0<e.id
  ·rw [if_pos he] at hnx
   repeat' (first|apply qv|apply zw|apply qm|apply qk|apply qp|(apply zb;(iterate 3 exact rfl))|(apply q6;(iterate 4 exact rfl))|(apply vg;exact cAo)|(apply qc;exact rfl;apply xi;exact cAo)|(apply z4;exact rfl;exact rfl)|(apply qw;(iterate 3 exact rfl))|(apply zf;(iterate 3 exact rfl))|(apply zh;(iterate 5 exact rfl))|(apply ze;(iterate 11 exact rfl))|apply q9|(apply xj (n:=k);(iterate 5 exact rfl);exact hxm))
   apply qgy (o:=o) rfl
   refine qb9.mono (hY r e _ _ cs (hst _ _ _ (qff (by omega)) hi) hcs hnx) ?_
   rintro b S2 ⟨h1,h2,h3⟩
   show AOps _ _ _ _ _ _ _
   cases b
   ·skip
    repeat' (first|apply qk|(apply ju;exact rfl)|(apply q6;(iterate 4 exact rfl))|(apply vg;exact cAo)|(apply qe;exact rfl;apply yj;exact cAo)|(apply qc;exact rfl;apply yu;exact cRa)|apply zj)
    exact qu rfl (qcc rfl) (.inr (h3 rfl))
   ·skip
    repeat' (first|apply qm|apply qk|apply qp|(apply ju;exact rfl)|(apply q6;(iterate 4 exact rfl))|(apply vg;exact cAo)|(apply qe;exact rfl;apply yj;exact cAo)|(apply qc;exact rfl;apply y0;exact cRa)|(apply z8;exact rfl;exact rfl;exact ql (by omega) (by omega))|apply q9)
    exact⟨k+1,⟨_,_,h2 rfl,.inr ⟨cs,h1⟩,by omega,rfl,qoj (qac ⟨rfl,rfl,rfl,rfl,trivial⟩)⟩,by omega⟩
  ·rw [if_neg he] at hnx
   repeat' (first|apply qv|apply zw|apply qm|apply qk|apply qp|(apply zb;(iterate 3 exact rfl))|(apply q6;(iterate 4 exact rfl))|(apply vm;exact cAo)|(apply qe;exact rfl;apply yw;exact cAo)|(apply qc;exact rfl;apply xi;exact cAo)|(apply qc;exact rfl;apply cd_f;exact cRa)|(apply z8;exact rfl;exact rfl;exact ql (by omega) (by omega))|(apply z4;exact rfl;exact rfl)|(apply qw;(iterate 3 exact rfl))|(apply zf;(iterate 3 exact rfl))|(apply zh;(iterate 5 exact rfl))|(apply ze;(iterate 11 exact rfl))|apply q9|(apply xj (n:=k);(iterate 5 exact rfl);exact hxm))
   exact⟨k+1,⟨_,_,hst _ _ _ (qff (by omega)) hi,.inr ⟨cs,hcs⟩,by omega,hnx,qoj (qac ⟨rfl,rfl,rfl,rfl,trivial⟩)⟩,by omega⟩
 ·rw [List.drop_of_length_le (by omega),qa5] at hnx
  repeat' (first|apply qv|apply qm|apply qk|(apply zb;(iterate 3 exact rfl))|(apply qc;exact rfl;apply xg;exact cAo)|apply kc)
  exact qu rfl (qcc rfl) (.inl ⟨r,hnx,hst _ _ _ (qff (by omega)) hi⟩)
def allY (r:List EntV):Option (SV×List EntV):=(qa5 r).map fun x=>(.a (entA x.1),x.2)
theorem q45 (l:q8) (hl:l.ents.length<1000000):ItC 128 42 [x9 l] (evY allY) l.ents:=⟨fun o kb n m I D S hm hn h0 hI hst hY=>by
 refine (q28 l o kb n m I D S hm hn hl h0 hI hst fun r e q S' cs hi hown hx=>?_).mono ?_
 ·refine (hY r (entA e) q S' [.cells 0 152 cs] hi (fun j y hy=>?_) (by simp [evY,allY,hx,SV.ev])).mono fun b S'' ⟨h1,h2,h3⟩=>⟨by have:=h1 0 _ rfl;simpa using this,h2,h3⟩
  match j with
  | 0=>
   simp only [List.getElem?_cons_zero,Option.some.injEq] at hy
   subst hy
   exact⟨hown,qau rfl⟩
  |j+1=>simp at hy
 ·rintro r S' (⟨i,h1,h2⟩|h)
  ·exact .inl ⟨i,by simp [evY,allY,h1],h2⟩
  ·exact .inr h⟩
theorem q5z (l:q8):wu E 70 [.a (x9 l)] 0 (hpF []) ⟨.fn (.func 128) [] [.bx 0 0],wr [],[(0,some (.cells 42 [.a (x9 l)]))]++xd [],1⟩:=by
 refine yp [.a (x9 l)] [] 0 (.fn (.func 128) [] [.bx 0 0]) [(0,some (.cells 42 [.a (x9 l)]))] 1 Tryz.func70 rfl rfl rfl rfl fun S F ρ=>?_
 apply qi [1]
 repeat' (first|apply And.intro|(intro h;try exact cDd)|exact cSd|apply qf [1]|refine exr ?_|refine qj ?_)
@[reducible] def stzA (x : Int × List Fld) : AV := .ag [Iv x.1, vq x.2]
@[reducible] def qb7 (s : List (Int × List Fld)) : AV := .sl 2 (s.map stzA) none
theorem qxm (s:List (Int×List Fld)):Pure (qb7 s):=qdl fun x hx=>by
 obtain⟨f,_,rfl⟩:=List.mem_map.1 hx
 intro y hy
 simp only [AV.cells,List.mem_cons,List.not_mem_nil,or_false] at hy
 rcases hy with rfl|rfl
 ·exact zm _
 ·exact qe4 _
theorem qs9 (es:List EntV):(stzF es).length≤es.length:=by
 unfold stzF
 rw [List.length_map]
 exact List.length_filter_le _ _
theorem qs3 {N:Nat} {B:Bs} {C:Conf} {Q:Exit→Conf→Prop} {X:Type} {f:Operand} {p:Tmp} {asg body:Code} (l:q8) (kb n0:Nat) (ks:List Nat) (I:X→Conf) (sl0:List (Nat×SV)) (P:List EntV→X→Prop) (D:Code→X→Prop) (x0:X) (h0:P l.ents x0)
  (he:EntA B.n0 C (I x0)) (hz:¬ B.dz) (hl:l.ents.length<1000000) (hsl:∀ x,(I x).sl=sl0)
  (hf:sval N sl0 f=some (.fn (.func 128) [] [.bx kb 0]))
  (hkb:∀ x,lkS (I x).hp kb=some (some (.cells 42 [.a (x9 l)])))
  (hr:∀ x,qbr n0 ks (I x).sl (I x).hp (I x).nx=true) (h0r:(ksIn n0 ks (I x0).hp && Nat.ble B.n0 n0)=true)
  (hb:∀ r e q x,P r x→qa5 r=some (e,q)→RA E N n0 asg (fun F ρ C1=>RB E N F ρ n0 body (rndQ n0 (P q) D I) C1) ⟨(p,.a (entA e))::(I x).sl,(I x).hp,(I x).nx⟩)
  (hn:∀ r x,qa5 r=none→P r x→Q .normal (I x)) (hd:∀ c x,D c x→qwf Q c (I x)):Sm E none N B (.rangeFunc f #[p] asg body) Q C:=by
 refine qkt (q45 l hl) Tryz.call128 (fun i v j h=>?_) kb n0 [.a (x9 l)] (fun _=>rfl) ks I sl0 P D x0 h0 he hz hsl hf hkb hr h0r (fun i x v j hp h=>?_) (fun i x h hp=>?_) hd
 ·unfold allY at h
  cases hx:qa5 i with
  |none=>rw [hx] at h;simp at h
  |some y=>
   rw [hx] at h
   simp only [Option.map_some,Option.some.injEq,Prod.mk.injEq] at h
   rw [← h.1]
   try rfl
 ·unfold allY at h
  cases hx:qa5 i with
  |none=>rw [hx] at h;simp at h
  |some y=>
   rw [hx] at h
   simp only [Option.map_some,Option.some.injEq,Prod.mk.injEq] at h
   obtain⟨h1,h2⟩:=h
   rw [← h1,← h2]
   exact hb i y.1 y.2 x hp hx
 ·unfold allY at h
  cases hx:qa5 i with
  |none=>exact hn i x hx hp
  |some y=>rw [hx] at h;simp at h
theorem qw3 (l:q8) (st:List AObj) (hl:l.ents.length<1000000) (hI:∀ e∈l.ents,e.x.fields.length<1000000):qn E 25 [x9 l] st fun r st'=>r=qb7 (stzF l.ents)∧st'=st:=by
 refine wt [.a (x9 l)] (qxm _) Tryz.func25 rfl rfl (fun _=>rfl) rfl fun S0=>?_
 apply qi []
 repeat' (first|apply And.intro|(intro h;try exact cDd)|exact⟨Tryz.call70⟩|(refine js (q5z l) ?_)|exact cSd|apply qf []|refine exr ?_|refine qj ?_)
 refine qs3 (X:=List (Int×List Fld)) l 1 2 [0,1] (fun out=>⟨[(3,.bx 0 0),(6,.fn (.func 128) [] [.bx 1 0])],[(0,some (.cells 55 [.tp 2])),(1,some (.cells 42 [.a (x9 l)])),(2,some (.tip 2 59 (out.map stzA)))],3⟩) _
  (fun r out=>out++stzF r=stzF l.ents∧out.length+r.length≤l.ents.length∧∀ y∈r,y∈l.ents) (fun _ _=>False) [] ⟨by simp,by simp,fun _ h=>h⟩ ?_ id hl (fun _=>rfl) rfl (fun _=>rfl) (fun _=>rfl) rfl ?_ ?_ (fun _ _ h=>h.elim)
 ·skip
  repeat' (first|apply And.intro|(intro h;try exact cDd)|exact cSd|apply qf []|refine exr ?_|refine qj ?_)
 ·rintro r e q out ⟨h1,h2,h3⟩ hx
  obtain⟨g1,g2,g3,g4,g5⟩:=qm5 hx
  rw [g3] at h1
  have hcl:=fun st=>qme e.x.fields st (hI e (h3 e g2))
  have hml:(out.map stzA).length=out.length:=by simp
  refine RA.mk fun S F ρ rd=>?_
  apply qi []
  repeat' (first|apply And.intro|(intro h;try exact cDd)|(refine RB.mk fun S rd=>?_;apply qi [])|exact⟨Tryz.call71⟩|refine cpe hcl ?_|(refine Exists.intro (out++[(e.id,e.x.fields)]) ⟨⟨by rw [← h1];simp,by simp;omega,fun y hy=>h3 y (g5 y hy)⟩,?_⟩)|exact cSd|apply qf []|refine exr ?_|refine qj ?_)
  all_goals first|(simp [SV.evs,SV.ev];done)|(simp [SV.evs];omega)
 ·rintro r out hx ⟨h1,h2,h3⟩
  rw [qm4 hx,List.append_nil] at h1
  rw [← h1]
  repeat' (first|apply And.intro|(intro h;try exact cDd)|exact cSd|apply qf []|refine exr ?_|refine qj ?_)
end Go.Proofs.YtneejjefekdgjaaGreatDoor
namespace Go.Pl
open Go Go.Proofs Go.Av Go.Proofs.YtneejjefekdgjaaGreatDoor
def dupS (key:qd) (pre:List (Int×List Fld)) (x:Int×List Fld):Bool:=(xb key x.2).any fun v=>pre.any fun y=>decide (v∈xb key y.2)
def qbl (key:qd):List (Int×List Fld)→List (Int×List Fld)→List Int
 | _,[]=>[]
 |pre,x::r=>(if dupS key pre x=true then [x.1] else [])++qbl key (pre++[x]) r
def qd2 (r:jo) (all:List (Int×List Fld)):List Int:=if yi r then (if r.kind=7 then qbl r.key [] all else (all.filter fun x=>decide (yb r x.2)).map Prod.fst) else []
def x7:Nat→List jo→List (Int×List Fld)→List (Int×Int)
 | _,[],_=>[]
 |i,r::rs,all=>(qd2 r all).map (fun id=>((i:Int),id))++x7 (i+1) rs all
def qaj (rs:List jo) (all:List (Int×List Fld)):List (Int×Int):=x7 0 rs all
def qir (key:qd) (L:List (qd×Int)) (pre:List (Int×List Fld)):Prop:=∀ s,0<getM s L↔(pre.any fun y=>decide (s∈xb key y.2))=true
theorem qpj (n:Int) (t:qd):∀ (vs:List qd) (L:List (qd×Int)),getM t (vs.foldl (fun L s=>setM s n L) L)=if t∈vs then n else getM t L
 | [],L=>by simp
 |v::vs,L=>by
  rw [List.foldl_cons,qpj n t vs,qrv]
  by_cases h:t∈vs
  ·rw [if_pos h,if_pos (by simp [h])]
  ·rw [if_neg h]
   by_cases e:t=v
   ·rw [if_pos e,if_pos (by simp [e])]
   ·rw [if_neg e,if_neg (by simp [e,h])]
theorem q2e (key:qd):qir key [] []:=fun s=>by simp [getM]
theorem qz3 {key:qd} {L:List (qd×Int)} {pre:List (Int×List Fld)} (x:Int×List Fld) {n:Int} (hn:0<n) (h:qir key L pre):qir key ((xb key x.2).foldl (fun L s=>setM s n L) L) (pre++[x]):=fun s=>by
 rw [qpj,List.any_append,Bool.or_eq_true]
 by_cases hs:s∈xb key x.2
 ·rw [if_pos hs]
  simp [hs,hn]
 ·rw [if_neg hs,h s]
  simp [hs]
theorem q2d {key:qd} {L:List (qd×Int)} {pre:List (Int×List Fld)} (h:qir key L pre) (x:Int×List Fld):((xb key x.2).any fun s=>decide (0<getM s L))=dupS key pre x:=by
 unfold dupS
 congr 1
 funext s
 have:=h s
 cases hb:(pre.any fun y=>decide (s∈xb key y.2)) with
 |true=>rw [hb] at this;simpa using this
 |false=>rw [hb] at this;simpa using this
theorem qo2 (key:qd):∀ (r:List (Int×List Fld)) (pre:List (Int×List Fld)) (x:Int×List Fld),qbl key pre (r++[x])=qbl key pre r++if dupS key (pre++r) x=true then [x.1] else []
 | [],pre,x=>by simp [qbl]
 |y::r,pre,x=>by
  rw [List.cons_append,qbl,qbl,qo2 key r (pre++[y]) x]
  simp
def qg7 (old now:List (Int×Int)):List (Int×Int):=now.filter fun f=> !decide (f∈old)
end Go.Pl
namespace Go.Pl
open Go
def i64 (n:Int):Prop:= -9223372036854775808≤n∧n≤9223372036854775807
end Go.Pl
namespace Go.Pl
open Go Go.Proofs Go.Av Go.Proofs.YtneejjefekdgjaaGreatDoor
def FsB (fs:List Fld):Prop:=fs.length≤40∧∀ f∈fs,f.1.length≤32∧f.2.length≤1000
theorem qy8 {t:qd} (h:qq t=4):qbq (ke t):=by
 unfold qq at h
 split at h
 ·omega
 ·split at h
  ·omega
  ·split at h
   ·omega
   ·split at h
    ·omega
    ·split at h
     ·rename_i hh;exact hh.2
     ·omega
theorem q0h {ls:List qd} (h:(jm ls).2=0):(jm ls).1.1.length≤32∧(jm ls).1.2.length≤1000:=by
 unfold jm at h ⊢
 split
 ·rename_i hu
  rw [if_pos hu] at h
  split
  ·rename_i h1
   rw [if_pos h1] at h
   exact absurd h (by decide)
  ·exact⟨(qy8 hu.2.1).2.1,by simp only;omega⟩
 ·rename_i hu
  rw [if_neg hu] at h
  exact absurd h (by decide)
theorem q2s {prev:Bool} {t:qd} {e:Bool} {r:List (qd×Bool)} {n:Nat} {rec:Int} (h:vo prev t e r n rec=0) (hk:qq t=4):(jm (t::vv r)).2=0∧n<40:=by
 unfold vo at h
 split at h
 ·omega
 ·split at h
  ·omega
  ·split at h
   ·rename_i hu;exact absurd h hu
   ·rename_i hu
    split at h
    ·omega
    ·exact⟨Classical.not_not.1 hu,by omega⟩
theorem qq6:∀ (ls:List qd) (prev:Bool) (now x:ja),blkR prev now ls=some x→FsB now.fields→FsB x.fields
 | [],prev,now,x,h,hb=>by
  simp only [blkR,Option.some.injEq] at h
  subst h
  exact hb
 |t::r,prev,now,x,h,hb=>by
  unfold blkR at h
  split at h
  ·simp at h
  ·rename_i hw
   simp only [not_or,Classical.not_not] at hw
   split at h
   ·rename_i hk
    obtain⟨h1,h2⟩:=q2s hw.1 hk
    refine qq6 r _ _ x h ⟨by simp;omega,fun f hf=>?_⟩
    rcases List.mem_append.1 hf with hf|hf
    ·exact hb.2 f hf
    ·simp only [List.mem_singleton] at hf
     subst hf
     exact q0h h1
   ·exact qq6 r _ _ x h hb
theorem qr2 {x:ja} (h:qca x):FsB x.fields:=by
 rcases h with⟨t,rfl,_⟩ | ⟨ls,_,h,_⟩
 ·exact⟨by simp,by simp⟩
 ·exact qq6 ls _ _ x h ⟨by simp [now0],by simp [now0]⟩
theorem q6z {l:q8} (h:GL l):∀ x∈stzF l.ents,FsB x.2:=by
 intro x hx
 unfold stzF at hx
 obtain⟨e,he,rfl⟩:=List.mem_map.1 hx
 exact qr2 (h.ok e (List.mem_filter.1 he).1).1
theorem q1i {fs:List Fld} (h:FsB fs):qhg fs:=⟨by have:=h.1;omega,fun f hf=>by have:=h.2 f hf;omega⟩
theorem qk2 (key:qd):∀ (all pre:List (Int×List Fld)),(qbl key pre all).length≤all.length
 | [],_=>by simp [qbl]
 |x::r,pre=>by
  have:=qk2 key r (pre++[x])
  rw [qbl,List.length_append]
  split
  ·simp;omega
  ·simp;omega
theorem qma (r:jo) (all:List (Int×List Fld)):(qd2 r all).length≤all.length:=by
 unfold qd2
 split
 ·split
  ·exact qk2 _ _ _
  ·rw [List.length_map];exact List.length_filter_le _ _
 ·simp
theorem qi2 (all:List (Int×List Fld)):∀ (rs:List jo) (i:Nat),(x7 i rs all).length≤rs.length * all.length
 | [],_=>by simp [x7]
 |r::rs,i=>by
  have h1:=qma r all
  have h2:=qi2 all rs (i+1)
  rw [x7,List.length_append,List.length_map,List.length_cons,Nat.add_mul]
  omega
theorem qmp (all:List (Int×List Fld)) (r:jo):∀ (rs:List jo) (i:Nat),x7 i (rs++[r]) all=x7 i rs all++(qd2 r all).map fun id=>(((i+rs.length:Nat):Int),id)
 | [],i=>by simp [x7]
 |q::rs,i=>by
  have:=qmp all r rs (i+1)
  have e:i+1+rs.length=i+(q::rs).length:=by rw [List.length_cons];omega
  rw [List.cons_append,x7,x7,this,List.append_assoc,e]
end Go.Pl
namespace Go.Pl
open Go Go.Proofs
def fstB (p:qd→Bool):Nat→List qd→Int
 | _,[]=> -1
 |k,x::r=>if p x=true then (k:Int) else fstB p (k+1) r
theorem qru (p:qd→Bool):∀ (xs:List qd) (k:Nat),0≤fstB p k xs↔xs.any p=true
 | [],k=>by simp [fstB]
 |x::r,k=>by
  unfold fstB
  by_cases h:p x=true
  ·rw [if_pos h]
   simp [h]
  ·rw [if_neg h,qru p r (k+1)]
   simp [h]
end Go.Pl
namespace Go.Proofs.YtneejjefekdgjaaGreatDoor
open Go Go.Av Go.RowKit Go.Proofs Go.Pl
@[reducible] def bytA (xs : List qd) : AV := .sl 1 (xs.map fun x => Sv x) none
@[reducible] def qa4 (x : Int × Int) : AV := .ag [Iv x.1, Iv x.2]
@[reducible] def qas (fs : List (Int × Int)) : AV := .sl 2 (fs.map qa4) none
@[reducible] def yh (rs : List jo) : AV := .sl 5 (rs.map vz) none
theorem qkh (fs:List (Int×Int)):Pure (qas fs):=qdl fun x hx=>by
 obtain⟨f,_,rfl⟩:=List.mem_map.1 hx
 intro y hy
 simp only [AV.cells,List.mem_cons,List.not_mem_nil,or_false] at hy
 rcases hy with rfl|rfl <;> exact zm _
theorem quk (rs:List jo):Pure (yh rs):=qdl fun x hx=>by
 obtain⟨f,_,rfl⟩:=List.mem_map.1 hx
 exact qxe f
@[reducible] def qak (L : List (qd × Int)) : List (Nat × Option SR) := [(0, some (.cells 295 [.tp 1])), (1, some (.obj (mapP (L.map (kvM keyS)))))]
@[reducible] def qmg : SV := .fn (.func 224) [] [.bx 0 0]
theorem q5n (s:qd) (L:List (qd×Int)):wu E 224 [.s s,.bx 0 0] 2 (hpF (qak L)) ⟨.b (decide (0<getM s L)),wr (qak L),qak L++xd (qak L),2⟩:=by
 refine yp [.s s,.bx 0 0] (qak L) 2 (.b (decide (0<getM s L))) (qak L) 2 Tryz.func224 rfl rfl rfl rfl fun S F ρ=>?_
 apply qi []
 repeat' (first|apply And.intro|(intro h;try exact cDd)|(refine q1r qz2 rfl rfl rfl (fun _=>rfl) rfl rfl rfl rfl ?_)|exact cSd|apply qf []|refine exr ?_|refine qj ?_)
 all_goals first|assumption|rfl|(simp;done)
theorem q5w (xs:List qd) (L:List (qd×Int)) (hl:xs.length<1000000):wu E 283 [.a (bytA xs),qmg] 2 (hpF (qak L)) ⟨.i (fstB (fun s=>decide (0<getM s L)) 0 xs),wr (qak L),qak L++xd (qak L),2⟩:=by
 refine yp [.a (bytA xs),qmg] (qak L) 2 (.i (fstB (fun s=>decide (0<getM s L)) 0 xs)) (qak L) 2 Tryz.func283 rfl rfl rfl rfl fun S F ρ=>?_
 have hml:(xs.map fun x=>Sv x).length=xs.length:=by simp
 apply qi []
 repeat' (first|apply And.intro|(intro h;try exact cDd)|exact cSd|apply qf []|refine exr ?_|refine qj ?_)
 refine wq (X:=Nat) (fun k=>⟨[(0,.a (bytA xs)),(1,qmg),(7,.i xs.length),(8,.i k)],qak L,2⟩) (fun k=>k≤xs.length∧fstB (fun s=>decide (0<getM s L)) k (xs.drop k)=fstB (fun s=>decide (0<getM s L)) 0 xs) (fun k=>xs.length - k) 0 ⟨by omega,by simp⟩ ?_ ?_
 ·skip
  repeat' (first|apply And.intro|(intro h;try exact cDd)|exact cSd|apply qf []|refine exr ?_|refine qj ?_)
  all_goals first|assumption|rfl|(simp;done)
 ·rintro k ⟨hk,hrun⟩
  by_cases hkn:k<xs.length
  ·have hx:xs[k]? = some xs[k]:=List.getElem?_eq_getElem hkn
   have hxm:(xs.map fun x=>Sv x)[k]? = some (Sv xs[k]):=by rw [List.getElem?_map,hx];rfl
   rw [List.drop_eq_getElem_cons hkn,fstB] at hrun
   have h1:=q5n xs[k] L
   generalize xs[k]=s at hx hxm hrun h1
   cases hd:decide (0<getM s L) with
   |true=>
    rw [hd] at h1
    rw [hd,if_pos rfl] at hrun
    rw [← hrun]
    apply qi []
    repeat' (first|apply And.intro|(intro h;try exact cDd)|(refine Exists.intro (k) ⟨by omega,_,hxm,?_⟩)|exact⟨Tryz.call224⟩|(refine js h1 ?_)|exact cSd|apply qf []|refine exr ?_|refine qj ?_)
    all_goals first|assumption|rfl
   |false=>
    rw [hd] at h1
    rw [hd,if_neg (by simp)] at hrun
    apply qi []
    repeat' (first|apply And.intro|(intro h;try exact cDd)|(refine Exists.intro (k) ⟨by omega,_,hxm,?_⟩)|exact⟨Tryz.call224⟩|(refine js h1 ?_)|(refine Exists.intro (k+1) ⟨⟨by omega,hrun⟩,by omega,?_⟩)|exact cSd|apply qf []|refine exr ?_|refine qj ?_)
    all_goals first|assumption|rfl
  ·have hkn:k=xs.length:=by omega
   subst hkn
   rw [List.drop_length,fstB] at hrun
   rw [← hrun]
   apply qi []
   repeat' (first|apply And.intro|(intro h;try exact cDd)|exact cSd|apply qf []|refine exr ?_|refine qj ?_)
   all_goals first|assumption|rfl
theorem q5i (xs:List qd) (L:List (qd×Int)) (hl:xs.length<1000000):wu E 223 [.a (bytA xs),qmg] 2 (hpF (qak L)) ⟨.b (xs.any fun s=>decide (0<getM s L)),wr (qak L),qak L++xd (qak L),2⟩:=by
 refine yp [.a (bytA xs),qmg] (qak L) 2 (.b (xs.any fun s=>decide (0<getM s L))) (qak L) 2 Tryz.func223 rfl rfl rfl rfl fun S F ρ=>?_
 have h1:=q5w xs L hl
 have h2:=qru (fun s=>decide (0<getM s L)) xs 0
 generalize fstB (fun s=>decide (0<getM s L)) 0 xs=n at *
 cases hb:(xs.any fun s=>decide (0<getM s L)) with
 |true=>
  have h3:=h2.2 hb
  apply qi []
  repeat' (first|apply And.intro|(intro h;try exact cDd)|exact⟨Tryz.call283⟩|(refine js h1 ?_)|exact cSd|apply qf []|refine exr ?_|refine qj ?_)
  all_goals first|assumption|rfl|(simp;omega)|omega
 |false=>
  have h3:¬ 0≤n:=fun h=>by rw [h2.1 h] at hb;cases hb
  apply qi []
  repeat' (first|apply And.intro|(intro h;try exact cDd)|exact⟨Tryz.call283⟩|(refine js h1 ?_)|exact cSd|apply qf []|refine exr ?_|refine qj ?_)
  all_goals first|assumption|rfl|(simp;omega)|omega
theorem qyp (key:qd) (all:List (Int×List Fld)) (st:List AObj) (hl:all.length<1000000) (hf:∀ x∈all,x.2.length<1000000):qn E 142 [Sv key,qb7 all] st fun r st'=>r=qjy (qbl key [] all)∧st'=st:=by
 refine wt [.s key,.a (qb7 all)] (qe6 _) Tryz.func142 rfl rfl (fun _=>rfl) rfl fun S0=>?_
 have hml:(all.map stzA).length=all.length:=by simp
 apply qi []
 repeat' (first|apply And.intro|(intro h;try exact cDd)|(refine q4d ?_)|exact cSd|apply qf []|refine exr ?_|refine qj ?_)
 refine wq (X:=Nat×List (qd×Int)) (fun (k,L)=>⟨[(0,.s key),(5,.tp 2),(6,.bx 0 0),(13,.a (qb7 all)),(14,.i all.length),(15,.i k)],[(0,some (.cells 295 [.tp 1])),(1,some (.obj (mapP (L.map (kvM keyS))))),(2,some (.tip 1 3 ((qbl key [] (all.take k)).map fun n=>Iv n)))],3⟩)
  (fun (k,L)=>k≤all.length∧qir key L (all.take k)) (fun (k,_)=>all.length - k) (0,[]) ⟨by omega,q2e key⟩ ?_ ?_
 ·skip
  repeat' (first|apply And.intro|(intro h;try exact cDd)|exact cSd|apply qf []|refine exr ?_|refine qj ?_)
  all_goals first|assumption|rfl|(simp [qbl];done)
 ·rintro⟨k,L⟩ ⟨hk,hs⟩
  by_cases hkn:k<all.length
  ·have hx:all[k]? = some all[k]:=List.getElem?_eq_getElem hkn
   have hxm:(all.map stzA)[k]? = some (stzA all[k]):=by rw [List.getElem?_map,hx];rfl
   have hxf:=hf _ (List.getElem_mem hkn)
   have htk:all.take (k+1)=all.take k++[all[k]]:=by rw [List.take_add_one,hx];rfl
   generalize all[k]=x at hx hxm hxf htk
   have hst:=qz3 x (n:=(k:Int)+1) (by omega) hs
   rw [← htk] at hst
   have hdp:=q2d hs x
   have hsn:=qo2 key (all.take k) [] x
   rw [← htk,List.nil_append] at hsn
   have hdl:=qk2 key (all.take k) []
   have hdl2:(all.take k).length≤all.length:=by simp;omega
   have hv:=fun st=>qtg key x.2 st (by omega)
   have hvl:=qih key x.2
   have hc:=q5i (xb key x.2) L (by omega)
   rw [hdp] at hc
   have hvm:((xb key x.2).map fun x=>Sv x).length=(xb key x.2).length:=by simp
   have hol:((qbl key [] (all.take k)).map fun n=>Iv n).length≤1000000:=by rw [List.length_map];omega
   have hone:([Iv x.1]:List AV).length=1:=rfl
   generalize xb key x.2=v at *
   cases hd:dupS key (all.take k) x
   case' false=>
    rw [hd] at hc
    rw [if_neg (by rw [hd];simp),List.append_nil] at hsn
    apply qi []
    repeat' (first|apply And.intro|(intro h;try exact cDd)|(refine Exists.intro (k) ⟨by omega,_,hxm,?_⟩)|exact⟨Tryz.call83⟩|refine cpe hv ?_|exact⟨Tryz.call223⟩|(refine js hc ?_)|exact cSd|apply qf []|refine exr ?_|refine qj ?_)
   case' true=>
    rw [hd] at hc
    rw [if_pos hd] at hsn
    apply qi []
    repeat' (first|apply And.intro|(intro h;try exact cDd)|(refine Exists.intro (k) ⟨by omega,_,hxm,?_⟩)|exact⟨Tryz.call83⟩|refine cpe hv ?_|exact⟨Tryz.call223⟩|(refine js hc ?_)|exact cSd|apply qf []|refine exr ?_|refine qj ?_)
   all_goals
    refine wq (X:=Nat) (fun j=>⟨[(0,.s key),(5,.tp 2),(6,.bx 0 0),(7,.i k),(13,.a (qb7 all)),(14,.i all.length),(15,.i k),(32,.a (bytA v)),(33,.i v.length),(34,.i j)],[(0,some (.cells 295 [.tp 1])),(1,some (.obj (mapP (((v.take j).foldl (fun L s=>setM s ((k:Int)+1) L) L).map (kvM keyS))))),(2,some (.tip 1 3 ((qbl key [] (all.take (k+1))).map fun n=>Iv n)))],3⟩)
     (fun j=>j≤v.length) (fun j=>v.length - j) 0 (by omega) ?_ ?_
    ·skip
     repeat' (first|apply And.intro|(intro h;try exact cDd)|exact cSd|apply qf []|refine exr ?_|refine qj ?_)
     all_goals first|assumption|rfl|(rw [hsn];simp;done)|(rw [hsn];done)|(simp;done)
    ·rintro j hj
     by_cases hjn:j<v.length
     ·have hy:v[j]? = some v[j]:=List.getElem?_eq_getElem hjn
      have hym:(v.map fun x=>Sv x)[j]? = some (Sv v[j]):=by rw [List.getElem?_map,hy];rfl
      have hfo:(v.take (j+1)).foldl (fun L s=>setM s ((k:Int)+1) L) L=setM v[j] ((k:Int)+1) ((v.take j).foldl (fun L s=>setM s ((k:Int)+1) L) L):=by rw [List.take_add_one,hy,List.foldl_append];rfl
      generalize v[j]=s at hy hym hfo
      apply qi []
      repeat' (first|apply And.intro|(intro h;try exact cDd)|(refine Exists.intro (j) ⟨by omega,_,hym,?_⟩)|(refine q1s qz2 rfl rfl rfl (fun _=>rfl) rfl (fun _=>rfl) rfl rfl rfl ?_)|(refine Exists.intro (j+1) ⟨by omega,by omega,?_⟩)|exact cSd|apply qf []|refine exr ?_|refine qj ?_)
      all_goals first|assumption|rfl|(rw [hfo];assumption)|(rw [hfo];done)|(simp;done)
     ·have hjn:j=v.length:=by omega
      subst hjn
      rw [List.take_length]
      apply qi []
      repeat' (first|apply And.intro|(intro h;try exact cDd)|(refine Exists.intro (k+1,v.foldl (fun L s=>setM s ((k:Int)+1) L) L) ⟨⟨by omega,hst⟩,by simp only;omega,?_⟩)|exact cSd|apply qf []|refine exr ?_|refine qj ?_)
      all_goals first|assumption|rfl|(simp;done)
  ·have hkn:k=all.length:=by omega
   subst hkn
   have htl:all.take all.length=all:=List.take_length
   apply qi []
   repeat' (first|apply And.intro|(intro h;try exact cDd)|exact cSd|apply qf []|refine exr ?_|refine qj ?_)
   all_goals first|rfl|(rw [htl];done)|(simp;done)
theorem q03 (r:jo) (all:List (Int×List Fld)) (st:List AObj) (hr:qee r) (hl:all.length<1000000) (hf:∀ x∈all,qhg x.2):qn E 79 [vz r,qb7 all] st fun x st'=>x=qjy (qd2 r all)∧st'=st:=by
 refine wt [.a (vz r),.a (qb7 all)] (qe6 _) Tryz.func79 rfl rfl (fun _=>rfl) rfl fun S0=>?_
 have hg:=fun st=>qg8 r st hr.key
 have hd:=fun st=>qyp r.key all st hl fun x hx=>(hf x hx).len
 have hb:=fun x (hx:x∈all) st=>qhh r x.2 st hr (hf x hx)
 have hml:(all.map stzA).length=all.length:=by simp
 unfold qd2
 by_cases hgood:yi r
 ·rw [if_pos hgood]
  rw [decide_eq_true hgood] at hg
  by_cases h7:r.kind=7
  ·rw [if_pos h7]
   apply qi []
   repeat' (first|apply And.intro|(intro h;try exact cDd)|exact⟨Tryz.call50⟩|refine cpe hg ?_|exact⟨Tryz.call142⟩|refine cpe hd ?_|exact cSd|apply qf []|refine exr ?_|refine qj ?_)
  ·rw [if_neg h7]
   apply qi []
   repeat' (first|apply And.intro|(intro h;try exact cDd)|exact⟨Tryz.call50⟩|refine cpe hg ?_|exact cSd|apply qf []|refine exr ?_|refine qj ?_)
   refine wq (X:=Nat) (fun k=>⟨[(2,.a (.pp (qxg r))),(5,.tp 0),(20,.a (qb7 all)),(21,.i all.length),(22,.i k)],[(0,some (.tip 1 3 ((((all.take k).filter fun x=>decide (yb r x.2)).map Prod.fst).map fun n=>Iv n)))],1⟩)
    (fun k=>k≤all.length) (fun k=>all.length - k) 0 (by omega) ?_ ?_
   ·skip
    repeat' (first|apply And.intro|(intro h;try exact cDd)|exact cSd|apply qf []|refine exr ?_|refine qj ?_)
    all_goals first|rfl|(simp;done)
   ·rintro k hk
    by_cases hkn:k<all.length
    ·have hx:all[k]? = some all[k]:=List.getElem?_eq_getElem hkn
     have hxm:(all.map stzA)[k]? = some (stzA all[k]):=by rw [List.getElem?_map,hx];rfl
     have htk:all.take (k+1)=all.take k++[all[k]]:=by rw [List.take_add_one,hx];rfl
     have hb1:=hb _ (List.getElem_mem hkn)
     have hfl:((all.take k).filter fun x=>decide (yb r x.2)).length≤all.length:=by
      have:=List.length_filter_le (fun x:Int×List Fld=>decide (yb r x.2)) (all.take k)
      simp at this
      omega
     generalize all[k]=x at hx hxm hb1 htk
     by_cases hbr:yb r x.2
     ·have e1:((all.take (k+1)).filter fun x=>decide (yb r x.2)).map Prod.fst=((all.take k).filter fun x=>decide (yb r x.2)).map Prod.fst++[x.1]:=by rw [htk];simp [hbr]
      rw [decide_eq_true hbr] at hb1
      apply qi []
      repeat' (first|apply And.intro|(intro h;try exact cDd)|(refine Exists.intro (k) ⟨by omega,_,hxm,?_⟩)|exact⟨Tryz.call41⟩|refine cpe hb1 ?_|(refine Exists.intro (k+1) ⟨by omega,by omega,?_⟩)|exact cSd|apply qf []|refine exr ?_|refine qj ?_)
      all_goals first|(rw [e1];simp;done)|(simp;omega)
     ·have e1:((all.take (k+1)).filter fun x=>decide (yb r x.2)).map Prod.fst=((all.take k).filter fun x=>decide (yb r x.2)).map Prod.fst:=by rw [htk];simp [hbr]
      rw [decide_eq_false hbr] at hb1
      apply qi []
      repeat' (first|apply And.intro|(intro h;try exact cDd)|(refine Exists.intro (k) ⟨by omega,_,hxm,?_⟩)|exact⟨Tryz.call41⟩|refine cpe hb1 ?_|(refine Exists.intro (k+1) ⟨by omega,by omega,?_⟩)|exact cSd|apply qf []|refine exr ?_|refine qj ?_)
      all_goals first|(rw [e1];done)|(simp;omega)
    ·have hkn:k=all.length:=by omega
     subst hkn
     rw [List.take_length]
     apply qi []
     repeat' (first|apply And.intro|(intro h;try exact cDd)|exact cSd|apply qf []|refine exr ?_|refine qj ?_)
 ·rw [if_neg hgood]
  rw [decide_eq_false hgood] at hg
  apply qi []
  repeat' (first|apply And.intro|(intro h;try exact cDd)|exact⟨Tryz.call50⟩|refine cpe hg ?_|exact cSd|apply qf []|refine exr ?_|refine qj ?_)
end Go.Proofs.YtneejjefekdgjaaGreatDoor
namespace Go.Pl
open Go Go.Proofs Go.Av Go.Proofs.YtneejjefekdgjaaGreatDoor
def bigR (r:jo):Bool:=decide (100<r.key.length) ||decide (500<r.text.length)
def qja (l:qd) (rs:List jo):Bool:=decide (2500<l.length) ||(decide (12<rs.length) ||rs.any bigR)
theorem qza {l:qd} {rs:List jo} (h:qja l rs=false):l.length≤2500∧rs.length≤12∧∀ r∈rs,qee r:=by
 unfold qja at h
 simp only [Bool.or_eq_false_iff,decide_eq_false_iff_not,List.any_eq_false] at h
 refine⟨by omega,by omega,fun r hr=>?_⟩
 have:=h.2.2 r hr
 unfold bigR at this
 simp only [Bool.or_eq_true,decide_eq_true_eq,not_or] at this
 exact⟨by omega,by omega⟩
end Go.Pl
namespace Go.Proofs.YtneejjefekdgjaaGreatDoor
open Go Go.Av Go.RowKit Go.Proofs Go.Pl
@[reducible] def lsA : Option q8 → AV
 |some l=>x9 l
 |none=>.v (.pointer none)
@[reducible] def stzO : Option q8 → List (Int × List Fld)
 |some l=>stzF l.ents
 |none=>[]
theorem q3s (o:Option q8) (rs:List jo) (st:List AObj) (hz:∀ st,qn E 25 [lsA o] st fun r st'=>r=qb7 (stzO o)∧st'=st) (hl:(stzO o).length<1000000) (hf:∀ x∈stzO o,qhg x.2) (hr:∀ r∈rs,qee r) (hrl:rs.length≤12) :
  qn E 39 [lsA o,yh rs] st fun r st'=>r=qas (qaj rs (stzO o))∧st'=st:=by
 refine wt [.a (lsA o),.a (yh rs)] (qkh _) Tryz.func39 rfl rfl (fun _=>rfl) rfl fun S0=>?_
 have hfl:∀ k,(x7 0 (rs.take k) (stzO o)).length≤12000000:=fun k=>by
  have h1:=qi2 (stzO o) (rs.take k) 0
  have h2:(rs.take k).length≤12:=by simp;omega
  have h3:(rs.take k).length * (stzO o).length≤12 * (stzO o).length:=Nat.mul_le_mul_right _ h2
  omega
 have hb:=fun r (h:r∈rs) st=>q03 r (stzO o) st (hr r h) hl hf
 have hbl:=fun r=>qma r (stzO o)
 have hsn:=qmp (stzO o)
 have hmr:(rs.map vz).length=rs.length:=by simp
 have hz1:∀ (l:q8),o=some l→∀ st,qn E 25 [x9 l] st fun r st'=>r=qb7 (stzO o)∧st'=st:=fun l h=>by subst h;exact hz
 have hz2:o=none→∀ st,qn E 25 [.v (.pointer none)] st fun r st'=>r=qb7 (stzO o)∧st'=st:=fun h=>by subst h;exact hz
 unfold qaj
 clear hz hf
 generalize stzO o=all at hl hfl hb hbl hsn hz1 hz2 ⊢
 cases o
 case' none=>
  replace hz2:=hz2 rfl
  apply qi []
  repeat' (first|apply And.intro|(intro h;try exact cDd)|exact⟨Tryz.call25⟩|refine cpe hz2 ?_|exact cSd|apply qf []|refine exr ?_|refine qj ?_)
 case' some l=>
  replace hz1:=hz1 l rfl
  apply qi []
  repeat' (first|apply And.intro|(intro h;try exact cDd)|exact⟨Tryz.call25⟩|refine cpe hz1 ?_|exact cSd|apply qf []|refine exr ?_|refine qj ?_)
 all_goals
  refine wq (X:=Nat) (fun k=>⟨[(5,.tp 0),(6,.a (qb7 all)),(13,.a (yh rs)),(14,.i rs.length),(15,.i k)],[(0,some (.tip 2 88 ((x7 0 (rs.take k) all).map qa4)))],1⟩)
   (fun k=>k≤rs.length) (fun k=>rs.length - k) 0 (by omega) ?_ ?_
  ·skip
   repeat' (first|apply And.intro|(intro h;try exact cDd)|exact cSd|apply qf []|refine exr ?_|refine qj ?_)
   all_goals first|rfl|(simp;done)|(simp [x7];done)
  ·rintro k hk
   by_cases hkn:k<rs.length
   ·have hx:rs[k]? = some rs[k]:=List.getElem?_eq_getElem hkn
    have hxm:(rs.map vz)[k]? = some (vz rs[k]):=by rw [List.getElem?_map,hx];rfl
    have htk:rs.take (k+1)=rs.take k++[rs[k]]:=by rw [List.take_add_one,hx];rfl
    have hb1:=hb _ (List.getElem_mem hkn)
    have hbl1:=hbl rs[k]
    have hfl1:=hfl k
    have hs1:=hsn rs[k] (rs.take k) 0
    have hlk:(rs.take k).length=k:=by simp;omega
    rw [← htk,hlk,Nat.zero_add] at hs1
    generalize rs[k]=r at hx hxm hb1 hbl1 hs1
    generalize qd2 r all=ids at *
    generalize x7 0 (rs.take k) all=o1 at *
    have hmi:(ids.map fun n=>Iv n).length=ids.length:=by simp
    apply qi []
    repeat' (first|apply And.intro|(intro h;try exact cDd)|(refine Exists.intro (k) ⟨by omega,_,hxm,?_⟩)|exact⟨Tryz.call79⟩|refine cpe hb1 ?_|exact cSd|apply qf []|refine exr ?_|refine qj ?_)
    refine wq (X:=Nat) (fun j=>⟨[(5,.tp 0),(6,.a (qb7 all)),(7,.i k),(13,.a (yh rs)),(14,.i rs.length),(15,.i k),(22,.a (qjy ids)),(23,.i ids.length),(24,.i j)],[(0,some (.tip 2 88 ((o1++(ids.take j).map fun id=>((k:Int),id)).map qa4)))],1⟩)
     (fun j=>j≤ids.length) (fun j=>ids.length - j) 0 (by omega) ?_ ?_
    ·skip
     repeat' (first|apply And.intro|(intro h;try exact cDd)|exact cSd|apply qf []|refine exr ?_|refine qj ?_)
     all_goals first|rfl|(simp;done)
    ·rintro j hj
     by_cases hjn:j<ids.length
     ·have hy:ids[j]? = some ids[j]:=List.getElem?_eq_getElem hjn
      have hym:(ids.map fun n=>Iv n)[j]? = some (Iv ids[j]):=by rw [List.getElem?_map,hy];rfl
      have htj:ids.take (j+1)=ids.take j++[ids[j]]:=by rw [List.take_add_one,hy];rfl
      generalize ids[j]=n at hy hym htj
      apply qi []
      repeat' (first|apply And.intro|(intro h;try exact cDd)|(refine Exists.intro (j) ⟨by omega,_,hym,?_⟩)|(refine Exists.intro (j+1) ⟨by omega,by omega,?_⟩)|exact cSd|apply qf []|refine exr ?_|refine qj ?_)
      all_goals first|rfl|(rw [htj];simp;done)|(simp;omega)
     ·have hjn:j=ids.length:=by omega
      subst hjn
      rw [List.take_length]
      apply qi []
      repeat' (first|apply And.intro|(intro h;try exact cDd)|(refine Exists.intro (k+1) ⟨by omega,by omega,?_⟩)|exact cSd|apply qf []|refine exr ?_|refine qj ?_)
      all_goals first|rfl|(rw [hs1];done)|(rw [hs1];simp;done)|(simp;done)
   ·have hkn:k=rs.length:=by omega
    subst hkn
    rw [List.take_length]
    apply qi []
    repeat' (first|apply And.intro|(intro h;try exact cDd)|exact cSd|apply qf []|refine exr ?_|refine qj ?_)
theorem qy9 (l:qd) (rs:List jo) (st:List AObj):qn E 34 [Sv l,yh rs] st fun r st'=>r=Bv (qja l rs)∧st'=st:=by
 refine wt [.s l,.a (yh rs)] (zm _) Tryz.func34 rfl rfl (fun _=>rfl) rfl fun S0=>?_
 have hmr:(rs.map vz).length=rs.length:=by simp
 unfold qja
 by_cases h1:2500<l.length
 ·rw [decide_eq_true h1,Bool.true_or]
  apply qi []
  repeat' (first|apply And.intro|(intro h;try exact cDd)|exact cSd|apply qf []|refine exr ?_|refine qj ?_)
 rw [decide_eq_false h1,Bool.false_or]
 by_cases h2:12<rs.length
 ·rw [decide_eq_true h2,Bool.true_or]
  apply qi []
  repeat' (first|apply And.intro|(intro h;try exact cDd)|exact cSd|apply qf []|refine exr ?_|refine qj ?_)
 rw [decide_eq_false h2,Bool.false_or]
 apply qi []
 repeat' (first|apply And.intro|(intro h;try exact cDd)|exact cSd|apply qf []|refine exr ?_|refine qj ?_)
 refine wq (X:=Nat) (fun k=>⟨[(15,.a (yh rs)),(16,.i rs.length),(17,.i k)],[],0⟩) (fun k=>k≤rs.length∧(rs.drop k).any bigR=rs.any bigR) (fun k=>rs.length - k) 0 ⟨by omega,by simp⟩ ?_ ?_
 ·skip
  repeat' (first|apply And.intro|(intro h;try exact cDd)|exact cSd|apply qf []|refine exr ?_|refine qj ?_)
  all_goals first|rfl|(simp;done)
 ·rintro k ⟨hk,hrun⟩
  by_cases hkn:k<rs.length
  ·have hx:rs[k]? = some rs[k]:=List.getElem?_eq_getElem hkn
   have hxm:(rs.map vz)[k]? = some (vz rs[k]):=by rw [List.getElem?_map,hx];rfl
   rw [List.drop_eq_getElem_cons hkn,List.any_cons] at hrun
   generalize rs[k]=r at hx hxm hrun
   rw [show bigR r=(decide (100<r.key.length) ||decide (500<r.text.length)) from rfl] at hrun
   by_cases g1:100<r.key.length
   ·rw [decide_eq_true g1,Bool.true_or,Bool.true_or] at hrun
    rw [← hrun]
    apply qi []
    repeat' (first|apply And.intro|(intro h;try exact cDd)|(refine Exists.intro (k) ⟨by omega,_,hxm,?_⟩)|exact cSd|apply qf []|refine exr ?_|refine qj ?_)
   ·rw [decide_eq_false g1,Bool.false_or] at hrun
    by_cases g2:500<r.text.length
    ·rw [decide_eq_true g2,Bool.true_or] at hrun
     rw [← hrun]
     apply qi []
     repeat' (first|apply And.intro|(intro h;try exact cDd)|(refine Exists.intro (k) ⟨by omega,_,hxm,?_⟩)|exact cSd|apply qf []|refine exr ?_|refine qj ?_)
    ·rw [decide_eq_false g2,Bool.false_or] at hrun
     apply qi []
     repeat' (first|apply And.intro|(intro h;try exact cDd)|(refine Exists.intro (k) ⟨by omega,_,hxm,?_⟩)|(refine Exists.intro (k+1) ⟨⟨by omega,hrun⟩,by omega,?_⟩)|exact cSd|apply qf []|refine exr ?_|refine qj ?_)
  ·have hkn:k=rs.length:=by omega
   subst hkn
   rw [List.drop_length,List.any_nil] at hrun
   rw [← hrun]
   apply qi []
   repeat' (first|apply And.intro|(intro h;try exact cDd)|exact cSd|apply qf []|refine exr ?_|refine qj ?_)
theorem quj (rs:List jo) (st:List AObj) (hx:rs.length≤12):qn E 37 [yh rs] st fun r st'=>r=yh rs∧st'=st:=by
 refine wt [.a (yh rs)] (quk _) Tryz.func37 rfl rfl (fun _=>rfl) rfl fun S0=>?_
 have hmr:(rs.map vz).length=rs.length:=by simp
 apply qi []
 repeat' (first|apply And.intro|(intro h;try exact cDd)|exact cSd|apply qf []|refine exr ?_|refine qj ?_)
 refine wq (X:=Nat) (fun k=>⟨[(3,.tp 0),(7,.a (yh rs)),(8,.i rs.length),(9,.i k)],[(0,some (.tip 5 86 ((rs.take k).map vz)))],1⟩) (fun k=>k≤rs.length) (fun k=>rs.length - k) 0 (by omega) ?_ ?_
 ·skip
  repeat' (first|apply And.intro|(intro h;try exact cDd)|exact cSd|apply qf []|refine exr ?_|refine qj ?_)
  all_goals first|rfl|(simp;done)
 ·rintro k hk
  by_cases hkn:k<rs.length
  ·have hx:rs[k]? = some rs[k]:=List.getElem?_eq_getElem hkn
   have hxm:(rs.map vz)[k]? = some (vz rs[k]):=by rw [List.getElem?_map,hx];rfl
   have htk:rs.take (k+1)=rs.take k++[rs[k]]:=by rw [List.take_add_one,hx];rfl
   generalize rs[k]=r at hx hxm htk
   apply qi []
   repeat' (first|apply And.intro|(intro h;try exact cDd)|(refine Exists.intro (k) ⟨by omega,_,hxm,?_⟩)|(refine Exists.intro (k+1) ⟨by omega,by omega,?_⟩)|exact cSd|apply qf []|refine exr ?_|refine qj ?_)
   all_goals first|rfl|(rw [htk];simp;done)|(simp;omega)
  ·have hkn:k=rs.length:=by omega
   subst hkn
   rw [List.take_length]
   apply qi []
   repeat' (first|apply And.intro|(intro h;try exact cDd)|exact cSd|apply qf []|refine exr ?_|refine qj ?_)
end Go.Proofs.YtneejjefekdgjaaGreatDoor
