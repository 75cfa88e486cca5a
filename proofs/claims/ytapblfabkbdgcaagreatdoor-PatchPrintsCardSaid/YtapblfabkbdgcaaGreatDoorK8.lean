/- Contracts and plain facts that the closing text leans on (part 8). No condition of their own beyond those that each states. -/
import Derived.Test.YtapblfabkbdgcaaGreatDoorK7
set_option maxRecDepth 100000
set_option linter.unusedVariables false
set_option linter.unusedSimpArgs false
namespace Go.Pl
open Go Go.Proofs
def qg5 (l:q7) (i:Nat) (x:za):q7:=match l.ents[i]? with
 |some e=>⟨l.ents.set i ⟨x,e.id⟩,l.next,l.many⟩
 |none=>l
def xe (l:q7) (id:Int) (fs:List Fld):ErrV×q7:=if atF l id<0 then (.num 7,l) else if zw fs = .no then (.no,qg5 l (atF l id).toNat (xg fs)) else (zw fs,l)
def delL (l:q7) (i:Nat):q7:=⟨l.ents.take i++l.ents.drop (i+1),l.next,l.many - 1⟩
def delF (l:q7) (id:Int):ErrV×q7:=if atF l id<0 then (.num 7,l) else (.no,delL l (atF l id).toNat)
def insL (l:q7) (k:Nat) (x:za):q7:=⟨l.ents.take k++⟨x,l.next⟩::l.ents.drop k,l.next+1,l.many+1⟩
def insF (l:q7) (id:Int) (fs:List Fld):Int×ErrV×q7:=
 if atF l id<0∧id≠0 then (0,.num 7,l) else if zw fs = .no then (if 400≤l.many then (0,.num 11,l) else (l.next,.no,insL l (atF l id+1).toNat (xg fs))) else (0,zw fs,l)
structure LB (n:Nat) (l:q7):Prop where
 small:n<900000
 len:l.ents.length≤n
 nx0:1≤l.next
 nx1:l.next≤n+1
 mn0 : -(n:Int)≤l.many
 mn1:l.many≤n
theorem zcj {n:Nat} {l:q7} (h:LB n l) (hs:n+1<900000) (id:Int) (fs:List Fld):LB (n+1) (xe l id fs).2:=by
 have h1:=h.len;have h2:=h.nx0;have h3:=h.nx1;have h4:=h.mn0;have h5:=h.mn1;unfold xe;split
 ·exact⟨hs,by simp only;omega,h2,by simp only;omega,by simp only;omega,by simp only;omega⟩
 ·split
  ·unfold qg5
   split
   ·exact⟨hs,by simp;omega,h2,by simp only;omega,by simp only;omega,by simp only;omega⟩
   ·exact⟨hs,by simp only;omega,h2,by simp only;omega,by simp only;omega,by simp only;omega⟩
  ·exact⟨hs,by simp only;omega,h2,by simp only;omega,by simp only;omega,by simp only;omega⟩
theorem zef {n:Nat} {l:q7} (h:LB n l) (hs:n+1<900000) (id:Int):LB (n+1) (delF l id).2:=by
 have h1:=h.len;have h2:=h.nx0;have h3:=h.nx1;have h4:=h.mn0;have h5:=h.mn1;unfold delF;split
 ·exact⟨hs,by simp only;omega,h2,by simp only;omega,by simp only;omega,by simp only;omega⟩
 ·exact⟨hs,by simp [delL];omega,h2,by simp only [delL];omega,by simp only [delL];omega,by simp only [delL];omega⟩
theorem zex {n:Nat} {l:q7} (h:LB n l) (hs:n+1<900000) (id:Int) (fs:List Fld):LB (n+1) (insF l id fs).2.2:=by
 have h1:=h.len;have h2:=h.nx0;have h3:=h.nx1;have h4:=h.mn0;have h5:=h.mn1;have same:LB (n+1) l:=⟨hs,by omega,h2,by omega,by omega,by omega⟩;unfold insF;split
 ·exact same
 ·split
  ·split
   ·exact same
   ·exact⟨hs,by simp [insL];omega,by simp only [insL];omega,by simp only [insL];omega,by simp only [insL];omega,by simp only [insL];omega⟩
  ·exact same
end Go.Pl
namespace Go.Proofs.YtapblfabkbdgcaaGreatDoor
open Go Go.Av Go.RowKit Go.Proofs Go.Pl
def oneF (l:q7) (x:qq):Int×ErrV×q7:=if x.kind=1 then (0,xe l x.id x.fields) else if x.kind=2 then (0,delF l x.id) else insF l x.id x.fields
theorem qtd {n:Nat} {l:q7} (h:LB n l) (hs:n+1<900000) (x:qq):LB (n+1) (oneF l x).2.2:=by
 unfold oneF;split
 ·exact zcj h hs _ _
 ·split
  ·exact zef h hs _
  ·exact zex h hs _ _
theorem ze5 (l:q7) (hl:l.ents.length<1000000):ki E 86 [.a (vp l)] 0 (hpF []) ⟨.bx 0 0,j5 [],lstH 1 l++vd [],2⟩:=by
 refine wl [.a (vp l)] [] 0 (.bx 0 0) (lstH 1 l) 2 Tryz.func86 rfl rfl rfl rfl fun S F ρ=>?_;apply qf [19];repeat' (first|apply And.intro|(intro h;try exact cDd)|exact⟨Tryz.call127⟩|(refine Exists.intro _ ⟨q0w [.sl 4 (l.ents.map entA) none] _ (fun _=>rfl) (fun st=>q4b l.ents st hl),?_⟩)|exact cSd|apply qd [19]|refine exr ?_|refine qk ?_)
theorem zfe (n:Nat) (l:q7) (id:Int) (fs:List Fld) (hB:LB n l) (hK:KeyB fs) (hl:fs.length<1000000):ki E 128 [.bx 0 0,.i id,.a (zl fs)] 2 (hpF (lstH 1 l)) ⟨.a (errA (xe l id fs).1),j5 (lstH 1 l),lstH 2 (xe l id fs).2++vd (lstH 1 l),3⟩:=by
 refine wl [.bx 0 0,.i id,.a (zl fs)] (lstH 1 l) 2 (.a (errA (xe l id fs).1)) (lstH 2 (xe l id fs).2) 3 Tryz.func128 rfl rfl rfl rfl fun S F ρ=>?_;have c9:=hB.len;have t7:=hB.small;have h1:=qsy l id (by omega);have h2:=fun st=>q26 fs st hK hl;unfold xe;rcases qj2 l id with h | ⟨i,e,h,he,bv,hid1⟩
 ·rw [h] at h1 ⊢
  rw [if_pos (by decide)];apply qf [];repeat' (first|apply And.intro|(intro h;try exact cDd)|exact⟨Tryz.call168⟩|(refine jk h1 ?_)|exact cSd|apply qd []|refine exr ?_|refine qk ?_)
 ·rw [h] at h1 ⊢
  rw [if_neg (by omega)];have hm:(l.ents.map entA)[i]? = some (entA e):=by rw [List.getElem?_map,he];rfl
  have ld:=lt_of_getElem? hm;unfold xg at h2 ⊢
  cases hc:zw fs with
  |no=>
   rw [hc,if_pos rfl] at h2;rw [if_pos rfl,if_pos rfl];unfold qg5;rw [Int.toNat_natCast,he];apply qf [];repeat' (first|apply And.intro|(intro h;try exact cDd)|exact⟨Tryz.call168⟩|(refine jk h1 ?_)|exact⟨Tryz.call169⟩|refine cpe h2 ?_|(refine qdv (i:=i) rfl rfl rfl rfl rfl rfl (by omega) ?_)|(refine qi4 (i:=i) (j:=0) (z:=entA e) (z':=entA ⟨⟨3,z0 fs,fs⟩,e.id⟩) (u:=vo ⟨3,z0 fs,fs⟩) rfl rfl (fun _=>rfl) rfl rfl rfl hm rfl rfl ?_)|exact cSd|apply qd []|refine exr ?_|refine qk ?_)
   all_goals (simp [List.map_set];done)
  |num m=>
   rw [hc,if_neg (by simp)] at h2;rw [if_neg (by simp)];apply qf []
   repeat' (first|apply And.intro|(intro h;try exact cDd)|exact⟨Tryz.call168⟩|(refine jk h1 ?_)|exact⟨Tryz.call169⟩|refine cpe h2 ?_|exact cSd|apply qd []|refine exr ?_|refine qk ?_)
  |at' a m=>
   rw [hc,if_neg (by simp)] at h2;rw [if_neg (by simp)];apply qf [];repeat' (first|apply And.intro|(intro h;try exact cDd)|exact⟨Tryz.call168⟩|(refine jk h1 ?_)|exact⟨Tryz.call169⟩|refine cpe h2 ?_|exact cSd|apply qd []|refine exr ?_|refine qk ?_)
theorem zhl (n:Nat) (l:q7) (id:Int) (hB:LB n l):ki E 129 [.bx 0 0,.i id] 2 (hpF (lstH 1 l)) ⟨.a (errA (delF l id).1),j5 (lstH 1 l),lstH 2 (delF l id).2++vd (lstH 1 l),3⟩:=by
 refine wl [.bx 0 0,.i id] (lstH 1 l) 2 (.a (errA (delF l id).1)) (lstH 2 (delF l id).2) 3 Tryz.func129 rfl rfl rfl rfl fun S F ρ=>?_;have c9:=hB.len;have t7:=hB.small;have h4:=hB.mn0;have h5:=hB.mn1;have h1:=qsy l id (by omega);unfold delF;rcases qj2 l id with h | ⟨i,e,h,he,bv,hid1⟩
 ·rw [h] at h1 ⊢
  rw [if_pos (by decide)];apply qf [];repeat' (first|apply And.intro|(intro h;try exact cDd)|exact⟨Tryz.call168⟩|(refine jk h1 ?_)|exact cSd|apply qd []|refine exr ?_|refine qk ?_)
 ·rw [h] at h1 ⊢
  rw [if_neg (by omega)];have ld:=lt_of_getElem? he;have h2:=qo9 (f:=170) (E:=E) (xs:=l.ents.map entA) [Iv i,Iv ((i:Int)+1)] rfl (fun st c hc=>zib l.ents i ld (by omega) st c hc);unfold delL;rw [Int.toNat_natCast];apply qf [];repeat' (first|apply And.intro|(intro h;try exact cDd)|exact⟨Tryz.call168⟩|(refine jk h1 ?_)|exact⟨Tryz.call170⟩|(refine jk h2 ?_)|exact cSd|apply qd []|refine exr ?_|refine qk ?_)
theorem zhp (n:Nat) (l:q7) (id:Int) (fs:List Fld) (hB:LB n l) (hK:KeyB fs) (hl:fs.length<1000000):ki E 130 [.bx 0 0,.i id,.a (zl fs)] 2 (hpF (lstH 1 l)) ⟨.tu [.i (insF l id fs).1,.a (errA (insF l id fs).2.1)],j5 (lstH 1 l),lstH 2 (insF l id fs).2.2++vd (lstH 1 l),3⟩:=by
 refine wl [.bx 0 0,.i id,.a (zl fs)] (lstH 1 l) 2 (.tu [.i (insF l id fs).1,.a (errA (insF l id fs).2.1)]) (lstH 2 (insF l id fs).2.2) 3 Tryz.func130 rfl rfl rfl rfl fun S F ρ=>?_;have c9:=hB.len;have t7:=hB.small;have h4:=hB.mn0;have h5:=hB.mn1;have h6:=hB.nx0;have h7:=hB.nx1;have h1:=qsy l id (by omega);have h2:=fun st=>q26 fs st hK hl;unfold insF;rcases qj2 l id with h | ⟨i,e,h,he,bv,hid1⟩
 ·rw [h] at h1 ⊢
  by_cases h0:id=0
  ·rw [if_neg (fun q=>q.2 h0)]
   rw [show ((-1:Int)+1).toNat=0 from rfl];unfold xg at h2 ⊢
   cases hc:zw fs with
   |no=>
    rw [hc,if_pos rfl] at h2;rw [if_pos rfl,if_pos rfl];by_cases hm:400≤l.many
    ·rw [if_pos hm]
     apply qf [];repeat' (first|apply And.intro|(intro h;try exact cDd)|exact⟨Tryz.call168⟩|(refine jk h1 ?_)|exact⟨Tryz.call169⟩|refine cpe h2 ?_|exact cSd|apply qd []|refine exr ?_|refine qk ?_)
    ·rw [if_neg hm]
     have h3:=qo9 (f:=171) (E:=E) (xs:=l.ents.map entA) [Iv ((0:Nat):Int),.sl 4 [entA ⟨⟨3,z0 fs,fs⟩,l.next⟩] none] rfl (fun st c hc=>q9h l.ents ⟨⟨3,z0 fs,fs⟩,l.next⟩ (0) (by omega) (by omega) st c hc);unfold insL;apply qf []
     repeat' (first|apply And.intro|(intro h;try exact cDd)|exact⟨Tryz.call168⟩|(refine jk h1 ?_)|exact⟨Tryz.call169⟩|refine cpe h2 ?_|exact⟨Tryz.call171⟩|(refine jk h3 ?_)|exact cSd|apply qd []|refine exr ?_|refine qk ?_)
   |num m=>
    rw [hc,if_neg (by simp)] at h2;rw [if_neg (by simp)];apply qf []
    repeat' (first|apply And.intro|(intro h;try exact cDd)|exact⟨Tryz.call168⟩|(refine jk h1 ?_)|exact⟨Tryz.call169⟩|refine cpe h2 ?_|exact cSd|apply qd []|refine exr ?_|refine qk ?_)
   |at' a m=>
    rw [hc,if_neg (by simp)] at h2;rw [if_neg (by simp)];apply qf [];repeat' (first|apply And.intro|(intro h;try exact cDd)|exact⟨Tryz.call168⟩|(refine jk h1 ?_)|exact⟨Tryz.call169⟩|refine cpe h2 ?_|exact cSd|apply qd []|refine exr ?_|refine qk ?_)
  ·rw [if_pos ⟨by decide,h0⟩]
   apply qf [];repeat' (first|apply And.intro|(intro h;try exact cDd)|exact⟨Tryz.call168⟩|(refine jk h1 ?_)|exact cSd|apply qd []|refine exr ?_|refine qk ?_)
 ·rw [h] at h1 ⊢
  have ld:=lt_of_getElem? he;rw [if_neg (fun q=>absurd q.1 (by omega))];rw [show ((i:Int)+1).toNat=i+1 from rfl];unfold xg at h2 ⊢
  cases hc:zw fs with
  |no=>
   rw [hc,if_pos rfl] at h2;rw [if_pos rfl,if_pos rfl];by_cases hm:400≤l.many
   ·rw [if_pos hm]
    apply qf [];repeat' (first|apply And.intro|(intro h;try exact cDd)|exact⟨Tryz.call168⟩|(refine jk h1 ?_)|exact⟨Tryz.call169⟩|refine cpe h2 ?_|exact cSd|apply qd []|refine exr ?_|refine qk ?_)
   ·rw [if_neg hm]
    have h3:=qo9 (f:=171) (E:=E) (xs:=l.ents.map entA) [Iv ((i+1:Nat):Int),.sl 4 [entA ⟨⟨3,z0 fs,fs⟩,l.next⟩] none] rfl (fun st c hc=>q9h l.ents ⟨⟨3,z0 fs,fs⟩,l.next⟩ (i+1) (by omega) (by omega) st c hc);unfold insL;apply qf []
    repeat' (first|apply And.intro|(intro h;try exact cDd)|exact⟨Tryz.call168⟩|(refine jk h1 ?_)|exact⟨Tryz.call169⟩|refine cpe h2 ?_|exact⟨Tryz.call171⟩|(refine jk h3 ?_)|exact cSd|apply qd []|refine exr ?_|refine qk ?_)
  |num m=>
   rw [hc,if_neg (by simp)] at h2;rw [if_neg (by simp)];apply qf []
   repeat' (first|apply And.intro|(intro h;try exact cDd)|exact⟨Tryz.call168⟩|(refine jk h1 ?_)|exact⟨Tryz.call169⟩|refine cpe h2 ?_|exact cSd|apply qd []|refine exr ?_|refine qk ?_)
  |at' a m=>
   rw [hc,if_neg (by simp)] at h2;rw [if_neg (by simp)];apply qf [];repeat' (first|apply And.intro|(intro h;try exact cDd)|exact⟨Tryz.call168⟩|(refine jk h1 ?_)|exact⟨Tryz.call169⟩|refine cpe h2 ?_|exact cSd|apply qd []|refine exr ?_|refine qk ?_)
def v8:Nat→List qq→q7→List Int→ErrV×q7×List Int
 | _,[],l,ids=>(.no,l,ids)
 |k,x::r,l,ids=>if (oneF l x).2.1 = .no then v8 (k+1) r (oneF l x).2.2 (if 0<(oneF l x).1 then ids++[(oneF l x).1] else ids) else (.at' k (oneF l x).2.1.code,l,ids)
def doF (l:q7) (b:List qq):ErrV×q7×List Int:=if eErr b = .no then v8 0 b l [] else (eErr b,l,[])
def doA (r:ErrV×q7×List Int):AV:=match r.1 with
 | .no=>.tu [vp r.2.1,qfq r.2.2,errA .no]
 |e=>.tu [.v (.pointer none),qfq [],errA e]
theorem zas (r:ErrV×q7×List Int):Pure (doA r):=by
 unfold doA;split
 ·exact qpx (qro _) (qex _) (va _)
 ·exact qpx (q8 _) (qex _) (va _)
theorem q8i {l:q7} {x:qq} (h:(oneF l x).2.1≠.no):(oneF l x).2.1.code≠0:=by
 have key:∀ fs:List Fld,zw fs≠.no→(zw fs).code≠0:=fun fs h h'=>h ((qmg fs).1 h');unfold oneF at h ⊢;split
 ·rename_i h1
  rw [if_pos h1] at h;unfold xe at h ⊢;split
  ·exact (by decide:(ErrV.num 7).code≠0)
  ·rename_i h2
   rw [if_neg h2] at h;split
   ·rename_i h3
    rw [if_pos h3] at h;exact absurd rfl h
   ·exact key _ (by assumption)
 ·rename_i h1
  rw [if_neg h1] at h;split
  ·rename_i h2
   rw [if_pos h2] at h;unfold delF at h ⊢;split
   ·exact (by decide:(ErrV.num 7).code≠0)
   ·rename_i h3
    rw [if_neg h3] at h;exact absurd rfl h
  ·rename_i h2
   rw [if_neg h2] at h;unfold insF at h ⊢;split
   ·exact (by decide:(ErrV.num 7).code≠0)
   ·rename_i h3
    rw [if_neg h3] at h;split
    ·rename_i h4
     rw [if_pos h4] at h;split
     ·exact (by decide:(ErrV.num 11).code≠0)
     ·rename_i h5
      rw [if_neg h5] at h;exact absurd rfl h
    ·exact key _ (by assumption)
theorem zhb (n:Nat) (l:q7) (x:qq) (hB:LB n l) (hK:KeyB x.fields) (hl:x.fields.length<1000000):ki E 87 [.bx 0 0,.a (je x)] 2 (hpF (lstH 1 l)) ⟨.tu [.i (oneF l x).1,.a (errA (oneF l x).2.1)],j5 (lstH 1 l),lstH 2 (oneF l x).2.2++vd (lstH 1 l),3⟩:=by
 refine wl [.bx 0 0,.a (je x)] (lstH 1 l) 2 (.tu [.i (oneF l x).1,.a (errA (oneF l x).2.1)]) (lstH 2 (oneF l x).2.2) 3 Tryz.func87 rfl rfl rfl rfl fun S F ρ=>?_;unfold oneF;by_cases h1:x.kind=1
 ·rw [if_pos h1]
  have hc:=zfe n l x.id x.fields hB hK hl;generalize xe l x.id x.fields=r at hc;apply qf [];repeat' (first|apply And.intro|(intro h;try exact cDd)|exact⟨Tryz.call128⟩|(refine jk hc ?_)|exact cSd|apply qd []|refine exr ?_|refine qk ?_)
 ·rw [if_neg h1]
  by_cases h2:x.kind=2
  ·rw [if_pos h2]
   have hc:=zhl n l x.id hB;generalize delF l x.id=r at hc;apply qf [];repeat' (first|apply And.intro|(intro h;try exact cDd)|exact⟨Tryz.call129⟩|(refine jk hc ?_)|exact cSd|apply qd []|refine exr ?_|refine qk ?_)
  ·rw [if_neg h2]
   have hc:=zhp n l x.id x.fields hB hK hl;generalize insF l x.id x.fields=r at hc;apply qf [];repeat' (first|apply And.intro|(intro h;try exact cDd)|exact⟨Tryz.call130⟩|(refine jk hc ?_)|exact cSd|apply qd []|refine exr ?_|refine qk ?_)
theorem zir (n:Nat) (l:q7) (b:List qq) (st:List AObj) (hB:LB n l) (hn:n+40<900000) (hE:∀ x∈b,EdB x) (hl:b.length<1000000):qn E 51 [vp l,jo b] st fun r st'=>r=doA (doF l b)∧st'=st:=by
 refine qld [.a (vp l),.a (jo b)] (zas _) Tryz.func51 rfl rfl (fun _=>rfl) rfl fun S0=>?_;have rj:=fun st=>qkq b st _ rfl hE (by omega);unfold doF
 cases he:eErr b with
 |num m=>
  rw [he] at rj;rw [if_neg (by simp)];apply qf []
  repeat' (first|apply And.intro|(intro h;try exact cDd)|exact⟨Tryz.call63⟩|refine cpe rj ?_|exact cSd|apply qd []|refine exr ?_|refine qk ?_)
 |at' a m=>
  rw [he] at rj;rw [if_neg (by simp)];apply qf []
  repeat' (first|apply And.intro|(intro h;try exact cDd)|exact⟨Tryz.call63⟩|refine cpe rj ?_|exact cSd|apply qd []|refine exr ?_|refine qk ?_)
 |no=>
  rw [he] at rj;rw [if_pos rfl];obtain⟨o8,hb40,hg⟩:=qb4 he;have gp:=ze5 l (by have:=hB.len;omega);apply qf [];repeat' (first|apply And.intro|(intro h;try exact cDd)|exact⟨Tryz.call63⟩|refine cpe rj ?_|exact⟨Tryz.call86⟩|(refine jk gp ?_)|exact cSd|apply qd []|refine exr ?_|refine qk ?_)
  refine ke (X:=Nat×q7×List Int) (fun (k,q,ids)=>⟨[(8,.bx 0 0),(9,.tp 2),(21,.a (jo b)),(22,.i b.length),(23,.i k)],[(0,some (.cells 105 [.tp 1,.i q.next,.i q.many])),(1,some (.own 4 109 (q.ents.map entA))),(2,some (.tip 1 3 (ids.map fun x=>Iv x)))],3⟩)
   (fun (k,q,ids)=>k≤b.length∧LB (n+k) q∧ids.length≤k∧v8 k (b.drop k) q ids=v8 0 b l []) (fun (k,q,ids)=>b.length - k) (0,l,[]) ⟨by omega,hB,by simp,rfl⟩ ?_ ?_
  ·skip
   repeat' (first|apply And.intro|(intro h;try exact cDd)|exact cSd|apply qd []|refine exr ?_|refine qk ?_)
   all_goals (simp;done)
  ·rintro⟨k,q,ids⟩ ⟨hk,hq,ld,a8⟩
   by_cases i8:k<b.length
   ·have hx:b[k]? = some b[k]:=List.getElem?_eq_getElem i8
    have m7:(b.map je)[k]? = some (je b[k]):=by rw [List.getElem?_map,hx];rfl
    have hxE:=hE b[k] (List.getElem_mem i8);have hxf:=(qd9 (hg b[k] (List.getElem_mem i8))).1;rw [List.drop_eq_getElem_cons i8,v8] at a8;have hidl:(ids.map fun x=>Iv x).length=ids.length:=by simp
    generalize b[k]=x at hx m7 hxE hxf a8;have pj:=zhb (n+k) q x hq hxE.keys (by omega);have hlb:=qtd hq (by omega) x;have tq:=fun h=>q8i (l:=q) (x:=x) h;generalize oneF q x=o at pj hlb tq a8;obtain⟨id,e,q'⟩:=o;dsimp only at pj hlb tq a8
    cases e with
    |no=>
     rw [if_pos rfl] at a8;by_cases h0:0<id
     ·rw [if_pos h0] at a8
      apply qf [];repeat' (first|apply And.intro|(intro h;try exact cDd)|(refine Exists.intro (k) ⟨by omega,_,m7,?_⟩)|exact⟨Tryz.call87⟩|(refine jk pj ?_)|(refine Exists.intro (k+1,q',ids++[id]) ⟨⟨by omega,hlb,by simp;omega,a8⟩,by simp only;omega,?_⟩)|exact cSd|apply qd []|refine exr ?_|refine qk ?_)
      all_goals first|(simp;done)|(simp;omega)
     ·rw [if_neg h0] at a8
      apply qf [];repeat' (first|apply And.intro|(intro h;try exact cDd)|(refine Exists.intro (k) ⟨by omega,_,m7,?_⟩)|exact⟨Tryz.call87⟩|(refine jk pj ?_)|(refine Exists.intro (k+1,q',ids) ⟨⟨by omega,hlb,by first|omega|(simp only;omega),a8⟩,by simp only;omega,?_⟩)|exact cSd|apply qd []|refine exr ?_|refine qk ?_)
      all_goals first|(simp;done)|(simp;omega)
    |num m=>
     rw [if_neg (by simp)] at a8;rw [← a8];have pb:=fun st=>qpb k (.num m) st (tq (by simp));apply qf []
     repeat' (first|apply And.intro|(intro h;try exact cDd)|(refine Exists.intro (k) ⟨by omega,_,m7,?_⟩)|exact⟨Tryz.call87⟩|(refine jk pj ?_)|exact⟨Tryz.call88⟩|refine cpe pb ?_|exact cSd|apply qd []|refine exr ?_|refine qk ?_)
    |at' a m=>
     rw [if_neg (by simp)] at a8;rw [← a8];have pb:=fun st=>qpb k (.at' a m) st (tq (by simp));apply qf [];repeat' (first|apply And.intro|(intro h;try exact cDd)|(refine Exists.intro (k) ⟨by omega,_,m7,?_⟩)|exact⟨Tryz.call87⟩|(refine jk pj ?_)|exact⟨Tryz.call88⟩|refine cpe pb ?_|exact cSd|apply qd []|refine exr ?_|refine qk ?_)
   ·have i8:k=b.length:=by omega
    subst i8;rw [List.drop_length,v8] at a8;rw [← a8];apply qf [];repeat' (first|apply And.intro|(intro h;try exact cDd)|exact cSd|apply qd []|refine exr ?_|refine qk ?_)
structure RunV where
 l:q7
 given:List (List Int)
 touched:List Int
def zif (b:List qq):List Int:=(b.filter fun x=>decide (x.kind≠3)).map fun x=>x.id
def zi1 (r:RunV) (b:List qq):RunV:=⟨(doF r.l b).2.1,r.given++[(doF r.l b).2.2],r.touched++zif b⟩
def qzj:List (List qq)→RunV→ErrV×RunV
 | [],r=>(.no,r)
 |b::q,r=>if (doF r.l b).1 = .no then qzj q (zi1 r b) else (.at' r.given.length 10,r)
def ziv (base:qc) (bs:List (List qq)):ErrV×RunV:=if kv base = .no then qzj bs ⟨ofF (itsE base),[],[]⟩ else (kv base,⟨ofF [],[],[]⟩)
theorem qnq {n m:Nat} {l:q7} (h:LB n l) (hm:n≤m) (hs:m<900000):LB m l:=by
 have h1:=h.len;have h2:=h.nx0;have h3:=h.nx1;have h4:=h.mn0;have h5:=h.mn1;exact⟨hs,by omega,h2,by omega,by omega,by omega⟩
theorem qul:∀ (b:List qq) (k n:Nat) (l:q7) (ids:List Int),LB n l→n+b.length<900000→LB (n+b.length) (v8 k b l ids).2.1
 | [],k,n,l,ids,h,_=>h
 |x::r,k,n,l,ids,h,hs=>by
  simp only [List.length_cons] at hs ⊢;unfold v8;split
  ·have:=qul r (k+1) (n+1) (oneF l x).2.2 (if 0<(oneF l x).1 then ids++[(oneF l x).1] else ids) (qtd h (by omega) x) (by omega)
   rw [show n+(r.length+1)=n+1+r.length by omega];exact this
  ·have h1:=h.len;have h2:=h.nx0;have h3:=h.nx1;have h4:=h.mn0;have h5:=h.mn1
   exact⟨by omega,by simp only;omega,h2,by simp only;omega,by simp only;omega,by simp only;omega⟩
theorem zg4 {n:Nat} {l:q7} (h:LB n l) (hs:n+40<900000) (b:List qq):LB (n+40) (doF l b).2.1:=by
 unfold doF;split
 ·rename_i he
  obtain⟨h1,h2,_⟩:=qb4 he;exact qnq (qul b 0 n l [] h (by omega)) (by omega) hs
 ·exact qnq h (by omega) hs
theorem q8d:∀ (its:List za) (n:Nat) (l:q7),LB n l→n+its.length<900000→LB (n+its.length) (its.foldl wj l)
 | [],n,l,h,_=>h
 |x::r,n,l,h,hs=>by
  simp only [List.length_cons] at hs ⊢;rw [List.foldl_cons,show n+(r.length+1)=n+1+r.length by omega];refine q8d r (n+1) _ ?_ (by omega);have h1:=h.len;have h2:=h.nx0;have h3:=h.nx1;have h4:=h.mn0;have h5:=h.mn1;unfold wj;split
  ·exact⟨by omega,by simp;omega,by simp only;omega,by simp only;omega,by simp only;omega,by simp only;omega⟩
  ·exact⟨by omega,by simp;omega,h2,by simp only;omega,by simp only;omega,by simp only;omega⟩
theorem qez (text:qc):LB 300000 (ofF (itsE text)):=by
 have h:=qyq text;have:=q8d (itsE text) 0 ⟨[],1,0⟩ ⟨by omega,by simp,by simp,by simp,by simp,by simp⟩ (by omega);exact qnq this (by omega) (by omega)
end Go.Proofs.YtapblfabkbdgcaaGreatDoor
namespace Go.Pl
open Go Go.Proofs Go.Proofs.YtapblfabkbdgcaaGreatDoor
def trL (ls:List qc):List (qc×Bool):=ls.map fun s=>(s,true)
def now0:za:=⟨2,[],[]⟩
def blkR:Bool→za→List qc→Option za
 | _,now,[]=>some now
 |prev,now,t::r=>
  if j7 prev t true (trL r) now.fields.length 0≠0∨qs t=1 then none
  else if qs t=4 then blkR true ⟨3,now.raw++t++[10],now.fields++[(jt (t::vc (trL r))).1]⟩ r
  else blkR (decide (qs t=3)) ⟨now.kind,now.raw++t++[10],now.fields⟩ r
def qwh:List (qc×Bool)→Prop
 | []=>True
 |(t,_)::_=>qs t=1
theorem qi2:∀ (ls:List qc) (rest:List (qc×Bool)),qwh rest→vc (trL ls++rest)=vc (trL ls)
 | [],[],_=>rfl
 | [],(t,e)::r,h=>by
  have h:qs t=1:=h
  show (if qs t=3 then _ else _)=_
  rw [if_neg (by omega)]
  rfl
 |t::r,rest,h=>by
  show (if qs t=3 then t::vc (trL r++rest) else [])=(if qs t=3 then t::vc (trL r) else [])
  rw [qi2 r rest h]
theorem qlt (prev:Bool) (t:qc) (ls:List qc) (rest:List (qc×Bool)) (n:Nat) (rec:Int) (h:qwh rest):j7 prev t true (trL ls++rest) n rec=j7 prev t true (trL ls) n rec:=by
 unfold j7;rw [qi2 ls rest h]
theorem q96 {prev:Bool} {t:qc} {L:List (qc×Bool)} {n:Nat} {rec:Int} (h:j7 prev t true L n 0=0) (hr:qs t=4→n=0→rec<400):j7 prev t true L n rec=0:=by
 unfold j7 at h ⊢;split
 ·rename_i h1;rw [if_pos h1] at h;exact h
 ·rename_i h1
  rw [if_neg h1] at h;split
  ·rfl
  ·rename_i h4
   rw [if_neg h4] at h;split
   ·rename_i hu;rw [if_pos hu] at h;exact h
   ·rename_i hu
    rw [if_neg hu] at h;have h4:=Classical.not_not.1 h4;rw [if_neg];intro hh;rcases hh with hh|hh
    ·rw [if_pos (.inl hh)] at h;omega
    ·have:=hr h4 hh.1;omega
theorem qss {prev:Bool} {t:qc} {e:Bool} {L:List (qc×Bool)} {n:Nat} {rec:Int} (h:j7 prev t e L n rec=0):j7 prev t e L n 0=0:=by
 unfold j7 at h ⊢;split
 ·rename_i h1;rw [if_pos h1] at h;exact h
 ·rename_i h1
  rw [if_neg h1] at h;split
  ·rfl
  ·rename_i h4
   rw [if_neg h4] at h;split
   ·rename_i hu;rw [if_pos hu] at h;exact h
   ·rename_i hu
    rw [if_neg hu] at h;rw [if_neg];intro hh;rcases hh with hh|hh
    ·rw [if_pos (.inl hh)] at h;omega
    ·omega
theorem q95 {prev:Bool} {t:qc} {e:Bool} {L:List (qc×Bool)} {n:Nat} {rec:Int} (h:j7 prev t e L n rec=0):e=true∧10∉t:=by
 unfold j7 at h;split at h
 ·omega
 ·rename_i h1
  refine⟨by cases e with|true=>rfl|false=>exact absurd (.inr (.inr rfl)) h1,fun f0=>h1 (.inl ?_)⟩;unfold qs;rw [if_pos f0]
theorem qo1 {prev:Bool} {t:qc} {L:List (qc×Bool)} {n:Nat} {rec:Int} (h:qs t=1):j7 prev t true L n rec=0:=by
 unfold j7;rw [if_neg (by simp [h]),if_pos (by omega)]
theorem qim:∀ (ls:List qc) (prev:Bool) (now x:za),blkR prev now ls=some x→now.kind=3→x.kind=3
 | [],_,now,x,h,hk=>by cases h;exact hk
 |t::r,prev,now,x,h,hk=>by
  rw [blkR] at h;split at h
  ·cases h
  ·split at h
   ·exact qim r _ _ _ h rfl
   ·exact qim r _ _ _ h hk
theorem qnl:∀ (ls:List qc) (prev:Bool) (now x:za),blkR prev now ls=some x→x.raw=now.raw++ze ls
 | [],_,now,x,h=>by cases h;simp [ze]
 |t::r,prev,now,x,h=>by
  rw [blkR] at h;split at h
  ·cases h
  ·split at h
   ·rw [qnl r _ _ _ h,ww];simp
   ·rw [qnl r _ _ _ h,ww];simp
def ql5 (x:za):Prop:=x.kind=3∧x.fields≠[]∨x.kind=2∧x.fields=[]
theorem qj3:∀ (ls:List qc) (k:Nat) (prev:Bool) (now x:za) (rec:Int) (out:List za) (rest:List (qc×Bool)),qwh rest→blkR prev now ls=some x→ql5 now→(now.kind=2→x.kind=3→rec<400) →
  (∃ prev',refL k (trL ls++rest) prev now rec out=refL (k+ls.length) rest prev' x (if now.kind=2∧x.kind=3 then rec+1 else rec) out)∧ql5 x
 | [],k,prev,now,x,rec,out,rest,hs,h,hk,hr=>by
  cases h
  refine⟨⟨prev,?_⟩,hk⟩;rw [if_neg (by omega)]
  rfl
 |t::r,k,prev,now,x,rec,out,rest,hs,h,hk,hr=>by
  rw [blkR] at h;split at h
  ·cases h
  ·rename_i hc
   simp only [not_or,Classical.not_not] at hc
   have hrec:qs t=4→now.fields.length=0→rec<400:=fun h4 h0=>by
    rw [if_pos h4] at h;rcases hk with hk|hk
    ·exact absurd (List.length_eq_zero_iff.1 h0) hk.2
    ·exact hr hk.1 (qim r _ _ _ h rfl)
   have hw:j7 prev t true (trL r++rest) now.fields.length rec=0:=by
    rw [qlt _ _ _ _ _ _ hs];exact q96 hc.1 hrec
   have e7:trL (t::r)++rest=(t,true)::(trL r++rest):=rfl;rw [e7,refL,if_neg (by simp [hw]),if_neg hc.2];split at h
   ·rename_i h4
    rw [if_pos h4,qi2 r rest hs];have hx3:=qim r _ _ _ h rfl;obtain⟨⟨p',e⟩,hkx⟩:=qj3 r (k+1) _ _ x (if now.kind=2 then rec+1 else rec) out rest hs h (.inl ⟨rfl,by simp⟩) (by simp);refine⟨⟨p',?_⟩,hkx⟩;rw [e,if_neg (by simp)];simp only [hx3,and_true,List.length_cons];congr 1;omega
   ·rename_i h4
    rw [if_neg h4];obtain⟨⟨p',e⟩,hkx⟩:=qj3 r (k+1) _ _ x rec out rest hs h hk hr;refine⟨⟨p',?_⟩,hkx⟩;rw [e,List.length_cons];congr 1;omega
theorem qtk:∀ (L:List (qc×Bool)) (k:Nat) (prev:Bool) (now:za) (rec:Int) (out its:List za),refL k L prev now rec out=(none,its) →
  ∃ (ls:List qc) (rest:List (qc×Bool)) (prev':Bool) (x:za) (rec':Int) (k':Nat),L=trL ls++rest∧qwh rest∧blkR prev now ls=some x∧refL k' rest prev' x rec' out=(none,its)∧∀ t∈ls,10∉t
 | [],k,prev,now,rec,out,its,h=>⟨[],[],prev,now,rec,k,rfl,trivial,rfl,h,by simp⟩
 |(t,e)::r,k,prev,now,rec,out,its,h=>by
  have h0:=h;rw [refL] at h;split at h
  ·simp at h
  ·rename_i hw
   have hw:=Classical.not_not.1 hw;obtain⟨rfl,f0⟩:=q95 hw;split at h
   ·rename_i h1
    exact⟨[],(t,true)::r,prev,now,rec,k,rfl,h1,rfl,h0,by simp⟩
   ·rename_i h1
    split at h
    ·rename_i h4
     obtain⟨ls,rest,p',x,rc,k',rfl,hs,hb,hr,dv⟩:=qtk r _ _ _ _ _ _ h;rw [qi2 ls rest hs] at hb;rw [qlt _ _ _ _ _ _ hs] at hw;refine⟨t::ls,rest,p',x,rc,k',rfl,hs,?_,hr,by simpa using ⟨f0,dv⟩⟩;rw [blkR,if_neg (by simp [qss hw,h1]),if_pos h4];exact hb
    ·rename_i h4
     obtain⟨ls,rest,p',x,rc,k',rfl,hs,hb,hr,dv⟩:=qtk r _ _ _ _ _ _ h;rw [qlt _ _ _ _ _ _ hs] at hw;refine⟨t::ls,rest,p',x,rc,k',rfl,hs,?_,hr,by simpa using ⟨f0,dv⟩⟩;rw [blkR,if_neg (by simp [qss hw,h1]),if_neg h4];exact hb
def x9 (x:za):Prop:=(∃ t,x=⟨1,t++[10],[]⟩∧qs t=1)∨∃ ls,ls≠[]∧blkR false now0 ls=some x∧∀ t∈ls,10∉t
theorem qvb (out:List za):outR now0 out=out:=rfl
theorem qu5 {t:qc} (h:qs t=1):10∉t:=fun f0=>by
 unfold qs at h;rw [if_pos f0] at h;omega
theorem q9c:∀ (n:Nat) (L:List (qc×Bool)) (k:Nat) (rec:Int) (out its:List za),L.length≤n→refL k L false now0 rec out=(none,its)→(∀ x∈out,x9 x)→∀ x∈its,x9 x:=by
 intro n
 induction n with
 |zero=>
  intro L k rec out its hn h ho;have:L=[]:=List.length_eq_zero_iff.1 (by omega);subst this;have h:(none,outR now0 out)=(none,its):=h;simp only [Prod.mk.injEq,true_and] at h;subst h
  exact ho
 |succ n ih=>
  intro L k rec out its hn h ho;obtain⟨ls,rest,p',x,rc,k',rfl,hs,hb,hr,dv⟩:=qtk L _ _ _ _ _ _ h
  have hout:∀ y∈outR x out,x9 y:=fun y hy=>by
   unfold outR at hy;split at hy
   ·exact ho y hy
   ·rename_i hx
    rcases List.mem_append.1 hy with hy|hy
    ·exact ho y hy
    ·simp only [List.mem_cons,List.not_mem_nil,or_false] at hy
     subst hy;refine .inr ⟨ls,fun e=>hx ?_,hb,dv⟩;subst e
     cases hb
     rfl
  cases rest with
  |nil=>
   have hr:(none,outR x out)=(none,its):=hr;simp only [Prod.mk.injEq,true_and] at hr;subst hr
   exact hout
  |cons y r=>
   obtain⟨t,e⟩:=y;have h1:qs t=1:=hs;rw [refL] at hr;split at hr
   ·simp at hr
   ·try rw [if_pos h1] at hr
    refine ih r _ _ _ _ (by simp at hn;omega) hr fun y hy=>?_;rcases List.mem_append.1 hy with hy|hy
    ·exact hout y hy
    ·simp only [List.mem_cons,List.not_mem_nil,or_false] at hy
     subst hy;exact .inl ⟨t,rfl,h1⟩
theorem qm8 {text:qc} (h:(jj text).1=none):∀ x∈(jj text).2,x9 x:=by
 refine q9c _ (zj text) 0 0 [] _ (Nat.le_refl _) ((qft text).trans (Prod.ext h rfl)) (by simp)
theorem q04 {fs:List Fld} (hg:GF fs) (b8:fs≠[]):x9 ⟨3,z0 fs,fs⟩:=by
 have h:=qr3 hg b8;exact qm8 (by rw [h]) _ (by rw [h];simp)
def SepI:List za→Prop
 | []=>True
 | [_]=>True
 |x::y::r=>(x.kind≠1→y.kind=1)∧SepI (y::r)
def cntI (its:List za):Nat:=its.countP fun x=>x.kind=3
theorem qm2:∀ (ls:List qc) (R:qc),(∀ s∈ls,10∉s)→zj (ze ls++R)=trL ls++zj R
 | [],R,_=>rfl
 |s::r,R,h=>by
  have hs:=h s (by simp);have e:ze (s::r)++R=s++10::(ze r++R):=by rw [ww];simp
  rw [e,vr (by simp),wg _ hs,w7 _ hs,qm2 r R fun x hx=>h x (by simp [hx])];simp [trL]
theorem qow {t:qc} {R:qc} (h:10∉t):zj (t++[10]++R)=(t,true)::zj R:=by
 have:=qm2 [t] R (by simpa using h)
 simpa [ze,trL] using this
theorem qjq {x:za} (h:x9 x):x.kind=1∧(∃ t,x=⟨1,t++[10],[]⟩∧qs t=1)∨ql5 x∧x.raw≠[]∧∃ ls,ls≠[]∧blkR false now0 ls=some x∧∀ t∈ls,10∉t:=by
 rcases h with⟨t,rfl,ht⟩ | ⟨ls,b8,hb,dv⟩
 ·exact .inl ⟨rfl,t,rfl,ht⟩
 ·refine .inr ⟨(qj3 ls 0 false now0 x 0 [] [] trivial hb (.inr ⟨rfl,rfl⟩) (by omega)).2,?_,ls,b8,hb,dv⟩
  rw [qnl _ _ _ _ hb]
  cases ls with
  |nil=>exact absurd rfl b8
  |cons t r=>simp [ze,now0]
theorem qk7:∀ (its:List za) (k:Nat) (rec:Int) (out:List za),(∀ x∈its,x9 x)→SepI its→rec+cntI its≤400→refL k (zj (jf its)) false now0 rec out=(none,out++its)
 | [],k,rec,out,_,_,_=>by
  have:jf []=[]:=rfl;rw [this,kq]
  simp [refL,qvb]
 |x::r,k,rec,out,hok,nv,hc=>by
  have hraw:jf (x::r)=x.raw++jf r:=rfl;rw [hraw];rcases qjq (hok x (by simp)) with⟨bw,t,rfl,ht⟩ | ⟨hkx,sr,ls,b8,hb,dv⟩
  ·rw [qow (qu5 ht),refL,if_neg (by rw [qo1 ht];simp),if_pos ht,qvb]
   have hs:SepI r:=by cases r with|nil=>trivial|cons y q=>exact nv.2
   have:=qk7 r (k+1) rec (out++[⟨1,t++[10],[]⟩]) (fun y hy=>hok y (by simp [hy])) hs (by simpa [cntI] using hc);rw [show (⟨2,[],[]⟩:za)=now0 from rfl,this];simp
  ·have nw:x.kind≠1:=by rcases hkx with h|h <;> omega
   have hc3:x.kind=3→rec<400:=fun h=>by simp [cntI,h] at hc;omega
   have sm:x.raw=ze ls:=by rw [qnl _ _ _ _ hb];rfl
   rw [sm,qm2 ls _ dv]
   match r,hok,nv,hc with
   | [],hok,nv,hc=>
    have:jf []=[]:=rfl;rw [this,kq];obtain⟨⟨p',e⟩,_⟩:=qj3 ls k false now0 x rec out [] trivial hb (.inr ⟨rfl,rfl⟩) fun _ h=>hc3 h;rw [e,refL];unfold outR
    rw [if_neg sr]
   |y::q,hok,nv,hc=>
    have hy1:=nv.1 nw;rcases qjq (hok y (by simp)) with⟨_,t,rfl,ht⟩ | ⟨rx,_⟩
    ·have hraw:jf (⟨1,t++[10],[]⟩::q)=(t++[10])++jf q:=rfl
     rw [hraw,qow (qu5 ht)];obtain⟨⟨p',e⟩,_⟩:=qj3 ls k false now0 x rec out ((t,true)::zj (jf q)) ht hb (.inr ⟨rfl,rfl⟩) fun _ h=>hc3 h;rw [e,refL,if_neg (by rw [qo1 ht];simp),if_pos ht];have hs:SepI q:=by cases q with|nil=>trivial|cons z q'=>exact nv.2.2
     have ho:outR x out=out++[x]:=by unfold outR;rw [if_neg sr]
     rw [ho,show (⟨2,[],[]⟩:za)=now0 from rfl]
     have mf:(if now0.kind=2∧x.kind=3 then rec+1 else rec)+(cntI q:Int)≤400:=by
      simp only [cntI,List.countP_cons] at hc ⊢;by_cases h3:x.kind=3
      ·rw [if_pos ⟨rfl,h3⟩]
       simp [h3] at hc;omega
      ·rw [if_neg fun h=>h3 h.2]
       simp [h3] at hc;omega
     rw [qk7 q _ _ _ (fun y hy=>hok y (by simp [hy])) hs mf];simp
    ·exfalso
     rcases rx with h|h <;> omega
theorem qab (a b:List za):cntI (a++b)=cntI a+cntI b:=by simp [cntI]
theorem xa (x:za) (b:List za):cntI (x::b)=(if x.kind=3 then 1 else 0)+cntI b:=by
 simp only [cntI,List.countP_cons,decide_eq_true_eq];omega
theorem qt2:∀ (its:List za) (prev:Bool),SepI (jw prev its)∧(prev=true→∀ x,(jw prev its).head? = some x→x.kind=1)
 | [],prev=>⟨trivial,by simp [jw]⟩
 |x::r,prev=>by
  obtain⟨h1,h2⟩:=qt2 r (decide (x.kind≠1))
  have key:SepI (x::jw (decide (x.kind≠1)) r):=by
   cases hq:jw (decide (x.kind≠1)) r with
   |nil=>trivial
   |cons y q=>
    rw [hq] at h1 h2;exact⟨fun hk=>h2 (by simpa using hk) y rfl,h1⟩
  rw [jw];by_cases hp:prev=true∧x.kind≠1
  ·rw [if_pos hp]
   exact⟨⟨fun h=>absurd rfl h,key⟩,fun _ y hy=>by simp at hy;subst hy;rfl⟩
  ·rw [if_neg hp]
   exact⟨key,fun hpr y hy=>by
    simp at hy;subst hy
    exact Classical.byContradiction fun h=>hp ⟨hpr,h⟩⟩
theorem qxg:∀ (its:List za) (prev:Bool),(∀ x∈its,x9 x)→(∀ x∈jw prev its,x9 x)∧cntI (jw prev its)=cntI its
 | [],prev,_=>by simp [jw]
 |x::r,prev,h=>by
  obtain⟨h1,h2⟩:=qxg r (decide (x.kind≠1)) fun y hy=>h y (by simp [hy]);have hx:=h x (by simp);have fb:x9 ⟨1,[10],[]⟩:=.inl ⟨[],rfl,by decide⟩;rw [jw];split
  ·refine⟨fun y hy=>?_,by simp only [List.cons_append,List.nil_append,xa];rw [h2];try simp⟩
   simp only [List.cons_append,List.nil_append,List.mem_cons] at hy;rcases hy with rfl|rfl|hy
   ·exact fb
   ·exact hx
   ·exact h1 y hy
  ·refine⟨fun y hy=>?_,by simp only [List.cons_append,List.nil_append,xa];rw [h2];try simp⟩
   simp only [List.cons_append,List.nil_append,List.mem_cons] at hy;rcases hy with rfl|hy
   ·exact hx
   ·exact h1 y hy
theorem qzf {its:List za} (h:∀ x∈its,x9 x) (hc:cntI its≤400):jj (jf (y0 its))=(none,y0 its):=by
 obtain⟨h1,h2⟩:=qxg its false h;have:=qk7 (y0 its) 0 0 [] h1 (qt2 its false).1 (by unfold y0;rw [h2];omega);rw [List.nil_append] at this;rw [← qft];exact this
theorem qzb {now:za} {out:List za} (hk:ql5 now) (hr:now.kind=3→now.raw≠[]):(cntI (outR now out):Int)=(cntI out:Int)+(if now.kind=3 then 1 else 0):=by
 have h0:cntI []=0:=rfl;unfold outR;by_cases he:now.raw=[]
 ·rw [if_pos he,if_neg fun h=>hr h he]
  omega
 ·rw [if_neg he,qab,xa,h0]
  by_cases h3:now.kind=3
  ·rw [if_pos h3,if_pos h3];omega
  ·rw [if_neg h3,if_neg h3];omega
theorem qn2:∀ (L:List (qc×Bool)) (k:Nat) (prev:Bool) (now:za) (rec:Int) (out its:List za),refL k L prev now rec out=(none,its)→ql5 now→(now.kind=3→now.raw≠[])→(cntI out:Int)+(if now.kind=3 then 1 else 0)=rec→rec≤400→cntI its≤400
 | [],k,prev,now,rec,out,its,h,hk,hr,hc,hm=>by
  have h:(none,outR now out)=(none,its):=h;simp only [Prod.mk.injEq,true_and] at h;subst h;have:=qzb (out:=out) hk hr
  omega
 |(t,e)::r,k,prev,now,rec,out,its,h,hk,hr,hc,hm=>by
  rw [refL] at h;split at h
  ·simp at h
  ·rename_i hw
   have hw:=Classical.not_not.1 hw;split at h
   ·refine qn2 r _ _ _ _ _ _ h (.inr ⟨rfl,rfl⟩) (by simp) ?_ hm
    have:=qzb (out:=out) hk hr;rw [qab,xa,show cntI []=0 from rfl,if_neg (by omega:¬ (1:Int)=3),if_neg (by omega:¬ (2:Int)=3)];omega
   ·split at h
    ·rename_i h4
     refine qn2 r _ _ _ _ _ _ h (.inl ⟨rfl,by simp⟩) (by simp) ?_ ?_
     ·rcases hk with hk|hk
      ·rw [if_pos hk.1] at hc
       rw [if_pos rfl,if_neg (by omega)];exact hc
      ·rw [if_neg (by omega)] at hc
       rw [if_pos rfl,if_pos hk.1];omega
     ·rcases hk with hk|hk
      ·rw [if_neg (by omega)];exact hm
      ·rw [if_pos hk.1]
       unfold j7 at hw;split at hw
       ·omega
       ·rw [if_neg (by omega)] at hw
        split at hw
        ·omega
        ·split at hw
         ·omega
         ·rename_i hf
          have:now.fields.length=0:=by rw [hk.2];rfl
          omega
    ·exact qn2 r _ _ _ _ _ _ h hk (fun h3=>by simp) hc hm
theorem q8q {text:qc} (h:(jj text).1=none):cntI (jj text).2≤400:=
 qn2 (zj text) 0 false now0 0 [] _ ((qft text).trans (Prod.ext h rfl)) (.inr ⟨rfl,rfl⟩) (by simp [now0]) (by simp [cntI,now0]) (by omega)
structure GL (l:q7):Prop where
 ok:∀ e∈l.ents,x9 e.x∧(0<e.id↔e.x.kind=3)
 nx:1≤l.next
 mn:l.many=cntI (z7 l)
 le:cntI (z7 l)≤400
theorem q8f {l:q7} {x:za} (h:GL l) (hx:x9 x) (hc:cntI (z7 l)+cntI [x]≤400):GL (wj l x):=by
 obtain⟨h1,h2,h3,h4⟩:=h;rw [xa] at hc;unfold wj;by_cases hk:x.kind=3
 ·rw [if_pos hk]
  refine⟨fun e he=>?_,by simp only;omega,?_,?_⟩
  ·rcases List.mem_append.1 he with he|he
   ·exact h1 e he
   ·simp only [List.mem_cons,List.not_mem_nil,or_false] at he
    subst he;exact⟨hx,fun _=>hk,fun _=>by show 0<l.next;omega⟩
  ·simp only [z7,List.map_append,qab,List.map_cons,List.map_nil,xa] at h3 ⊢
   rw [if_pos hk];simp [cntI] at h3 ⊢;omega
  ·rw [if_pos hk] at hc
   simp only [z7,List.map_append,qab,List.map_cons,List.map_nil,xa] at hc ⊢;rw [if_pos hk];exact hc
 ·rw [if_neg hk]
  refine⟨fun e he=>?_,h2,?_,?_⟩
  ·rcases List.mem_append.1 he with he|he
   ·exact h1 e he
   ·simp only [List.mem_cons,List.not_mem_nil,or_false] at he
    subst he;exact⟨hx,by simp [hk]⟩
  ·simp only [z7,List.map_append,qab,List.map_cons,List.map_nil,xa] at h3 ⊢
   rw [if_neg hk];simp [cntI] at h3 ⊢;omega
  ·rw [if_neg hk] at hc
   simp only [z7,List.map_append,qab,List.map_cons,List.map_nil,xa] at hc ⊢;rw [if_neg hk];exact hc
theorem q1b (l:q7) (x:za):z7 (wj l x)=z7 l++[x]:=by
 unfold wj z7;split <;> simp
theorem qu9:∀ (its:List za) (l:q7),GL l→(∀ x∈its,x9 x)→cntI (z7 l)+cntI its≤400→GL (its.foldl wj l)
 | [],l,h,_,_=>h
 |x::r,l,h,hx,hc=>by
  rw [xa] at hc;refine qu9 r (wj l x) (q8f h (hx x (by simp)) ?_) (fun y hy=>hx y (by simp [hy])) ?_
  ·rw [xa,show cntI []=0 from rfl];omega
  ·rw [q1b,qab,xa]
   rw [show cntI []=0 from rfl];omega
theorem zhw {its:List za} (hx:∀ x∈its,x9 x) (hc:cntI its≤400):GL (ofF its):=
 qu9 its ⟨[],1,0⟩ ⟨by simp,by simp,by simp [z7,cntI],by simp [z7,cntI]⟩ hx (by simpa [z7,cntI] using hc)
theorem qzi {fs:List Fld} (h:zw fs = .no):x9 (xg fs)∧(xg fs).kind=3:=by
 obtain⟨h1,h2,h3⟩:=qer h;unfold xg;rw [if_pos h];exact⟨q04 ⟨h2,h3⟩ h1,rfl⟩
theorem qmi {l:List za} {i:Nat} {x:za} (h:l[i]? = some x):cntI l=cntI (l.take i)+(if x.kind=3 then 1 else 0)+cntI (l.drop (i+1)):=by
 obtain⟨d5,rfl⟩:=List.getElem?_eq_some_iff.1 h;have:=congrArg cntI (List.take_append_drop i l);rw [qab,List.drop_eq_getElem_cons d5,xa] at this;omega
theorem zch {l:q7} (h:GL l) (id:Int) (fs:List Fld):GL (xe l id fs).2:=by
 unfold xe;split
 ·exact h
 ·rename_i ha
  split
  ·rename_i hf
   obtain⟨hp,hp3⟩:=qzi hf;rcases qj2 l id with g | ⟨i,e,g1,g2,g3,g4⟩
   ·omega
   ·rw [g1,Int.toNat_natCast]
    unfold qg5;rw [g2];simp only;have hem:=List.mem_of_getElem? g2;obtain⟨d5,ck⟩:=List.getElem?_eq_some_iff.1 g2;have hek:e.x.kind=3:=(h.ok e hem).2.1 (by omega)
    have db:cntI ((l.ents.set i ⟨xg fs,e.id⟩).map fun e=>e.x)=cntI (l.ents.map fun e=>e.x):=by
     have a1:=qmi (l:=l.ents.map fun e=>e.x) (i:=i) (x:=e.x) (by simp [g2]);have a2:=qmi (l:=(l.ents.set i ⟨xg fs,e.id⟩).map fun e=>e.x) (i:=i) (x:=xg fs) (by simp [d5]);rw [a1,a2,← List.map_take,← List.map_take,← List.map_drop,← List.map_drop,List.take_set_of_le (Nat.le_refl _),List.drop_set_of_lt (by omega),hek,hp3]
    refine⟨fun y hy=>?_,h.nx,?_,?_⟩
    ·rcases List.mem_or_eq_of_mem_set hy with hy|rfl
     ·exact h.ok y hy
     ·exact⟨hp,fun _=>hp3,fun _=>by show 0<e.id;omega⟩
    ·exact h.mn.trans (congrArg Int.ofNat db).symm
    ·exact Nat.le_trans (Nat.le_of_eq db) h.le
  ·exact h
theorem zed {l:q7} (h:GL l) (id:Int):GL (delF l id).2:=by
 unfold delF;split
 ·exact h
 ·rcases qj2 l id with g | ⟨i,e,g1,g2,g3,g4⟩
  ·omega
  ·rw [g1,Int.toNat_natCast]
   have hem:=List.mem_of_getElem? g2;have hek:e.x.kind=3:=(h.ok e hem).2.1 (by omega);have a1:=qmi (l:=z7 l) (i:=i) (x:=e.x) (by simp [z7,g2]);rw [hek,if_pos rfl] at a1
   have a2:cntI (z7 (delL l i))=cntI ((z7 l).take i)+cntI ((z7 l).drop (i+1)):=by
    unfold delL z7;rw [List.map_append,qab,List.map_take,List.map_drop]
   have hm:=h.mn;have hl:=h.le;refine⟨fun y hy=>?_,h.nx,?_,?_⟩
   ·rcases List.mem_append.1 hy with hy|hy
    ·exact h.ok y (List.mem_of_mem_take hy)
    ·exact h.ok y (List.mem_of_mem_drop hy)
   ·rw [a2]
    show l.many - 1=_
    omega
   ·rw [a2]
    omega
theorem zev {l:q7} (h:GL l) (id:Int) (fs:List Fld):GL (insF l id fs).2.2:=by
 unfold insF;split
 ·exact h
 ·split
  ·rename_i hf
   obtain⟨hp,hp3⟩:=qzi hf;split
   ·exact h
   ·rename_i hm4
    generalize (atF l id+1).toNat=k
    have a1:cntI (z7 (insL l k (xg fs)))=cntI (z7 l)+1:=by
     unfold insL z7;rw [List.map_append,qab,List.map_cons,xa,hp3,if_pos rfl,List.map_take,List.map_drop];have:=congrArg cntI (List.take_append_drop k (l.ents.map fun e=>e.x));rw [qab] at this;omega
    have hm:=h.mn;have hl:=h.le;have hn:=h.nx;refine⟨fun y hy=>?_,?_,?_,?_⟩
    ·rcases List.mem_append.1 hy with hy|hy
     ·exact h.ok y (List.mem_of_mem_take hy)
     ·rcases List.mem_cons.1 hy with rfl|hy
      ·exact⟨hp,fun _=>hp3,fun _=>by show 0<l.next;omega⟩
      ·exact h.ok y (List.mem_of_mem_drop hy)
    ·show 1≤l.next+1
     omega
    ·rw [a1]
     show l.many+1=_
     omega
    ·rw [a1]
     omega
  ·exact h
theorem zfp {l:q7} (h:GL l) (x:qq):GL (oneF l x).2.2:=by
 unfold oneF;split
 ·exact zch h _ _
 ·split
  ·exact zed h _
  ·exact zev h _ _
theorem quk:∀ (b:List qq) (k:Nat) (l:q7) (ids:List Int),GL l→GL (v8 k b l ids).2.1
 | [],_,l,_,h=>h
 |x::r,k,l,ids,h=>by
  unfold v8;split
  ·exact quk r _ _ _ (zfp h x)
  ·exact h
theorem zg3 {l:q7} (h:GL l) (b:List qq):GL (doF l b).2.1:=by
 unfold doF;split
 ·exact quk b 0 l [] h
 ·exact h
theorem qjv {text:qc} (h:kv text = .no):(jj text).1=none∧text.length≤60000∧itsE text=(jj text).2:=by
 unfold kv at h;unfold itsE;split at h
 ·simp at h
 ·rename_i hl
  rw [if_neg hl];refine⟨?_,by omega,rfl⟩
  cases hp:(jj text).1 with
  |none=>rfl
  |some x=>rw [hp] at h;simp at h
end Go.Pl
namespace Go.Pl
open Go Go.Proofs
def cntF (es:List EntV):Nat:=es.countP fun e=>decide (0<e.id)
theorem qub (es:List EntV) (e:EntV):cntF (es++[e])=cntF es+if 0<e.id then 1 else 0:=by
 unfold cntF;rw [List.countP_append];by_cases h:0<e.id <;> simp [h]
end Go.Pl
namespace Go.Pl
open Go Go.Proofs Go.Av
def LM (l:q7):Prop:=l.many=cntF l.ents
theorem qe5 (a b:List EntV):cntF (a++b)=cntF a+cntF b:=by simp [cntF]
theorem qin (e:EntV) (b:List EntV):cntF (e::b)=(if 0<e.id then 1 else 0)+cntF b:=by
 by_cases h:0<e.id <;> simp [cntF,h] <;> omega
theorem q69 {l:List EntV} {i:Nat} {e:EntV} (h:l[i]? = some e):l=l.take i++e::l.drop (i+1):=by
 obtain⟨hi,rfl⟩:=List.getElem?_eq_some_iff.1 h;rw [← List.drop_eq_getElem_cons hi,List.take_append_drop]
theorem zcl {l:q7} (h:LM l) (id:Int) (fs:List Fld):LM (xe l id fs).2:=by
 unfold xe;split
 ·exact h
 ·split
  ·unfold qg5
   split
   ·rename_i e he
    unfold LM at h ⊢;simp only;rw [h];have h1:=q69 he;have hi:=lt_of_getElem? he;rw [List.set_eq_take_append_cons_drop,if_pos hi]
    conv=>lhs;rw [h1]
    rw [qe5,qe5,qin,qin]
   ·exact h
  ·exact h
theorem zeh {l:q7} (h:LM l) (id:Int):LM (delF l id).2:=by
 unfold delF;split
 ·exact h
 ·rename_i hn
  rcases qj2 l id with g | ⟨i,e,g,he,bv,hid1⟩
  ·exact absurd (by rw [g];decide) hn
  ·rw [g,Int.toNat_natCast]
   unfold LM delL at *;simp only;rw [h];have h1:=q69 he
   conv=>lhs;rw [h1]
   rw [qe5,qe5,qin,if_pos (by omega)];omega
theorem zez {l:q7} (h:LM l) (hn:1≤l.next) (id:Int) (fs:List Fld):LM (insF l id fs).2.2:=by
 unfold insF;split
 ·exact h
 ·split
  ·split
   ·exact h
   ·unfold LM insL at *
    simp only;rw [h,qe5,qin,if_pos (by simp only;omega)]
    conv=>lhs;rw [← List.take_append_drop (atF l id+1).toNat l.ents]
    rw [qe5];omega
  ·exact h
theorem qy7:∀ (its:List za) (l:q7),LM l→1≤l.next→LM (its.foldl wj l)∧1≤(its.foldl wj l).next
 | [],l,h,hn=>⟨h,hn⟩
 |x::r,l,h,hn=>by
  rw [List.foldl_cons];unfold wj;split
  ·refine qy7 r _ ?_ (by simp only;omega)
   unfold LM at *;simp only;rw [qub,if_pos (by simp only;omega),h];omega
  ·refine qy7 r _ ?_ hn
   unfold LM at *;simp only;rw [qub,if_neg (by simp),h];omega
theorem q8c (its:List za):LM (ofF its):=(qy7 its ⟨[],1,0⟩ (by simp [LM,cntF]) (by decide)).1
end Go.Pl
namespace Go.Proofs.YtapblfabkbdgcaaGreatDoor
open Go Go.Av Go.RowKit Go.Proofs Go.Pl
theorem zfr {l:q7} (h:LM l) (hn:1≤l.next) (x:qq):LM (oneF l x).2.2:=by
 unfold oneF;split
 ·exact zcl h _ _
 ·split
  ·exact zeh h _
  ·exact zez h hn _ _
theorem qun:∀ (b:List qq) (k n:Nat) (l:q7) (ids:List Int),LM l→LB n l→n+b.length<900000→LM (v8 k b l ids).2.1
 | [],k,n,l,ids,h,_,_=>h
 |x::r,k,n,l,ids,h,hB,hs=>by
  simp only [List.length_cons] at hs;unfold v8;split
  ·exact qun r (k+1) (n+1) _ _ (zfr h hB.nx0 x) (qtd hB (by omega) x) (by omega)
  ·exact h
theorem zg6 {n:Nat} {l:q7} (h:LM l) (hB:LB n l) (hs:n+40<900000) (b:List qq):LM (doF l b).2.1:=by
 unfold doF;split
 ·rename_i he
  obtain⟨h1,h2,_⟩:=qb4 he;exact qun b 0 n l [] h hB (by omega)
 ·exact h
end Go.Proofs.YtapblfabkbdgcaaGreatDoor
namespace Go.Pl
open Go Go.Proofs Go.Proofs.YtapblfabkbdgcaaGreatDoor
theorem qr7 (x:za) (r:List za):jf (x::r)=x.raw++jf r:=by simp [jf]
theorem zca {its:List za} {x:za} (h:x∈its):x.raw.length≤(jf its).length:=by
 induction its with
 |nil=>simp at h
 |cons y r ih=>
  rw [qr7,List.length_append];rcases List.mem_cons.1 h with rfl|h
  ·omega
  ·have:=ih h
   omega
structure PR (m:Nat) (p:PSt):Prop where
 tot:(jf p.items).length+(ze p.block).length≤m
 fl:∀ x∈p.items,x.fields.length<900000
theorem qmp {m:Nat} {p:PSt} (h:PR m p):PR m (jn p).2:=by
 unfold jn;split
 ·exact h
 ·split
  ·exact h
  ·split
   ·exact h
   ·exact⟨h.tot,h.fl⟩
theorem q65 {m:Nat} {p:PSt} (h:PR m p) (hf:p.fields.length<900000):PR m (xm p):=by
 have ht:=h.tot;unfold xm;split
 ·exact⟨by simp only [ze,List.flatMap_nil,List.length_nil];omega,h.fl⟩
 ·refine⟨?_,fun x hx=>?_⟩
  ·simp only [qed,qee,List.length_append]
   simp only [ze,List.flatMap_nil,List.length_nil] at ht ⊢;omega
  ·simp only [List.mem_append,List.mem_singleton] at hx
   rcases hx with hx|rfl
   ·exact h.fl x hx
   ·exact hf
theorem qs7 {m n:Nat} {p:PSt} (h:PR m p) (hB:PB n p) (hs:n+1<900000):PR m (endP p).2:=by
 unfold endP;split
 ·exact h
 ·have:=(qf4 hB hs).fields
  exact q65 (qmp h) (by omega)
theorem q6e {m n:Nat} {p:PSt} {no:Int} {text:qc} {ended:Bool} {kind:Int} (h:PR m p) (hB:PB n p) (hs:n+1<900000):PR m (jd p no text ended kind).2:=by
 unfold jd;split
 ·split
  ·exact h
  ·split
   ·exact⟨h.tot,h.fl⟩
   ·exact qmp ⟨h.tot,h.fl⟩
 ·split
  ·exact qs7 h hB hs
  ·exact qmp h
theorem x6 (a b:List qc):ze (a++b)=ze a++ze b:=by simp [ze]
theorem zc0 {m n:Nat} {p:PSt} {no:Int} {text:qc} {ended:Bool} (h:PR m p) (hB:PB n p) (hs:n+1<900000):PR (m+text.length+1) (v6 p no text ended).2:=by
 have more:∀ {q:PSt},PR m q→PR (m+text.length+1) q:=fun h=>⟨by have:=h.tot;omega,h.fl⟩;have h2:PR m (jd p no text ended (qs text)).2:=q6e h hB hs;have ht:=h2.tot;unfold v6;split
 ·exact more h
 ·split
  ·exact more h
  ·split
   ·refine⟨?_,fun x hx=>?_⟩
    ·simp only [qed,qee,List.length_append,List.length_cons,List.length_nil]
     omega
    ·simp only [List.mem_append,List.mem_singleton] at hx
     rcases hx with hx|rfl
     ·exact h2.fl x hx
     ·simp
   ·split
    ·refine⟨?_,h2.fl⟩
     simp only [kf,x6,List.length_append];simp only [ze,List.flatMap_cons,List.flatMap_nil,List.length_append,List.length_cons,List.length_nil] at ht ⊢;omega
    ·refine⟨?_,h2.fl⟩
     simp only [x6,List.length_append];simp only [ze,List.flatMap_cons,List.flatMap_nil,List.length_append,List.length_cons,List.length_nil] at ht ⊢;omega
theorem q3d:∀ (n:Nat) (rest:qc) (k m:Nat) (p:PSt),rest.length≤n→PB (4 * k) p→PR m p→k+rest.length≤60000→PR (m+2 * rest.length) (runL k (zj rest) p).2:=by
 intro n
 induction n with
 |zero=>
  intro rest k m p hr hB hR hk;obtain rfl:rest=[]:=List.eq_nil_of_length_eq_zero (by omega);rw [kq,runL]
  exact qs7 hR hB (by omega)
 |succ n ih=>
  intro rest k m p hr hB hR hk;by_cases b8:rest=[]
  ·subst b8
   rw [kq,runL];exact qs7 hR hB (by omega)
  ·have hu:=vt 10 rest
   have s0:=vj 10 rest;have cm:0<rest.length:=List.length_pos_iff.2 b8;rw [vr b8];simp only [runL];have cj:=qp4 (no:=k) (text:=upto 10 rest) (ended:=decide (10∈rest)) hB (by omega) (by omega);have fv:=zc0 (no:=k) (text:=upto 10 rest) (ended:=decide (10∈rest)) hR hB (by omega);split
   ·exact⟨by have:=hR.tot;simp only;omega,hR.fl⟩
   ·have:=ih (past 10 rest) (k+1) _ _ (by omega) cj fv (by omega)
    exact⟨by have:=this.tot;omega,this.fl⟩
theorem ze2 (text:qc):(jf (itsE text)).length≤120000∧∀ x∈itsE text,x.fields.length<900000:=by
 unfold itsE;split
 ·simp [jf]
 ·have h:=q3d text.length text 0 0 p0 (Nat.le_refl _) qwq ⟨by simp [p0,jf,ze],by simp [p0]⟩ (by omega)
  unfold jj;split
  ·simp [jf]
  ·have:=h.tot
   exact⟨by simp only;omega,h.fl⟩
def LI (l:q7):Prop:=∀ e∈l.ents,e.x.raw.length≤1000000∧e.x.fields.length<900000
theorem q8e:∀ (its:List za) (l:q7),LI l→(∀ x∈its,x.raw.length≤1000000∧x.fields.length<900000)→LI (its.foldl wj l)
 | [],l,h,_=>h
 |x::r,l,h,hx=>by
  rw [List.foldl_cons];refine q8e r _ ?_ fun y hy=>hx y (by simp [hy]);have h1:=hx x (by simp);unfold wj;split
  ·intro e he
   simp only [List.mem_append,List.mem_singleton] at he;rcases he with he|rfl
   ·exact h e he
   ·exact h1
  ·intro e he
   simp only [List.mem_append,List.mem_singleton] at he;rcases he with he|rfl
   ·exact h e he
   ·exact h1
theorem qrz (text:qc):LI (ofF (itsE text)):=by
 obtain⟨h1,h2⟩:=ze2 text;refine q8e _ _ (by simp [LI]) fun x hx=>⟨?_,h2 x hx⟩;have:=zca hx;omega
theorem qvi (fs:List Fld):(xg fs).raw.length≤1000000∧(xg fs).fields.length<900000:=by
 unfold xg;split
 ·rename_i h
  obtain⟨_,g1,g2⟩:=qer h;have:=qd7 fs g2;exact⟨by simp only;omega,by simp only;omega⟩
 ·exact⟨by simp,by simp⟩
theorem zck {l:q7} (h:LI l) (id:Int) (fs:List Fld):LI (xe l id fs).2:=by
 unfold xe;split
 ·exact h
 ·split
  ·unfold qg5
   split
   ·intro y hy
    rcases List.mem_or_eq_of_mem_set hy with hy|rfl
    ·exact h y hy
    ·exact qvi fs
   ·exact h
  ·exact h
theorem zeg {l:q7} (h:LI l) (id:Int):LI (delF l id).2:=by
 unfold delF;split
 ·exact h
 ·intro y hy
  simp only [delL,List.mem_append] at hy;rcases hy with hy|hy
  ·exact h y (List.mem_of_mem_take hy)
  ·exact h y (List.mem_of_mem_drop hy)
theorem zey {l:q7} (h:LI l) (id:Int) (fs:List Fld):LI (insF l id fs).2.2:=by
 unfold insF;split
 ·exact h
 ·split
  ·split
   ·exact h
   ·intro y hy
    simp only [insL,List.mem_append,List.mem_cons] at hy;rcases hy with hy|rfl|hy
    ·exact h y (List.mem_of_mem_take hy)
    ·exact qvi fs
    ·exact h y (List.mem_of_mem_drop hy)
  ·exact h
theorem qqn:∀ (its:List za) (b:Bool),(∀ x∈its,x.raw.length≤1000000)→(jf (jw b its)).length≤1000001 * its.length
 | [],b,h=>by simp [jw,jf]
 |x::r,b,h=>by
  have ih:=qqn r (decide (x.kind≠1)) fun y hy=>h y (by simp [hy]);have hx:=h x (by simp);rw [jw,qed,List.length_append];split
  ·rw [qr7,qee]
   simp only [List.length_append,List.length_cons,List.length_nil];omega
  ·rw [qee]
   simp only [List.length_cons];omega
theorem zc2 {n:Nat} {l:q7} (hB:LB n l) (h:LI l):(qai l).length≤1000000000000:=by
 have h1:=qqn (z7 l) false fun x hx=>by
  obtain⟨e,he,rfl⟩:=List.mem_map.1 hx;exact (h e he).1
 have h2:=hB.len;have h3:=hB.small;unfold qai y0;have:(z7 l).length=l.ents.length:=by simp [z7]
 omega
end Go.Pl
namespace Go.Proofs.YtapblfabkbdgcaaGreatDoor
open Go Go.Av Go.RowKit Go.Proofs Go.Pl
theorem zfq {l:q7} (h:LI l) (x:qq):LI (oneF l x).2.2:=by
 unfold oneF;split
 ·exact zck h _ _
 ·split
  ·exact zeg h _
  ·exact zey h _ _
theorem qum:∀ (b:List qq) (k:Nat) (l:q7) (ids:List Int),LI l→LI (v8 k b l ids).2.1
 | [],k,l,ids,h=>h
 |x::r,k,l,ids,h=>by
  unfold v8;split
  ·exact qum r (k+1) _ _ (zfq h x)
  ·exact h
theorem zg5 {l:q7} (h:LI l) (b:List qq):LI (doF l b).2.1:=by
 unfold doF;split
 ·exact qum b 0 l [] h
 ·exact h
theorem ze1 {n:Nat} {l:q7} (hB:LB n l) (h:LI l):ItsB (z7 l):=by
 have h1:=hB.len;have h2:=hB.small;refine⟨by simp [z7];omega,fun x hx=>?_⟩;obtain⟨e,he,rfl⟩:=List.mem_map.1 hx;have:=(h e he).2;omega
theorem zhx {e:ErrV} (h:e≠.no→e.code≠0):okE e:=by
 cases e with
 |no=>trivial
 |num n=>exact h (by simp)
 |at' a n=>exact h (by simp)
end Go.Proofs.YtapblfabkbdgcaaGreatDoor
namespace Go.Pl
open Go Go.Proofs
def qa2:List EntV→Option (EntV×List EntV)
 | []=>none
 |e::r=>if 0<e.id then some (e,r) else qa2 r
def stzF (es:List EntV):List (Int×List Fld):=(es.filter fun e=>decide (0<e.id)).map fun e=>(e.id,e.x.fields)
theorem qrt:∀ {r:List EntV},qa2 r=none→stzF r=[]
 | [],_=>rfl
 |e::r,h=>by
  unfold qa2 at h;split at h
  ·simp at h
  ·rename_i h0
   have:=qrt h
   simpa [stzF,h0] using this
theorem qru:∀ {r:List EntV} {e:EntV} {q:List EntV},qa2 r=some (e,q)→0<e.id∧e∈r∧stzF r=(e.id,e.x.fields)::stzF q∧q.length<r.length∧∀ y∈q,y∈r
 |x::r,e,q,h=>by
  unfold qa2 at h;split at h
  ·rename_i h0
   simp only [Option.some.injEq,Prod.mk.injEq] at h;obtain⟨rfl,rfl⟩:=h;exact⟨h0,by simp,by simp [stzF,h0],by simp,fun y hy=>by simp [hy]⟩
  ·rename_i h0
   obtain⟨h1,h2,h3,h4,h5⟩:=qru h;exact⟨h1,by simp [h2],by simpa [stzF,h0] using h3,by simp;omega,fun y hy=>by simp [h5 y hy]⟩
end Go.Pl
namespace Go.Proofs.YtapblfabkbdgcaaGreatDoor
open Go Go.Av Go.RowKit Go.Proofs Go.Pl
theorem zh2 {m:Nat} {T:TypeId} {S':List AObj} {cs0:List AV} (h:S'.length=m∨∃ cs,S'[m]? = some (.cells 0 T cs)):∃ cs,(S'++[AObj.cells 0 T cs0])[m]? = some (.cells 0 T cs):=by
 rcases h with rfl | ⟨cs,h⟩
 ·exact⟨cs0,by simp⟩
 ·exact⟨cs,by rw [List.getElem?_append_left (lt_of_getElem? h)];exact h⟩
theorem zh3 {m:Nat} {T:TypeId} {S':List AObj} (h:S'.length=m∨∃ cs,S'[m]? = some (.cells 0 T cs)):m≤S'.length:=by
 rcases h with rfl | ⟨cs,h⟩
 ·omega
 ·exact Nat.le_of_lt (lt_of_getElem? h)
theorem qto {L:List (Tmp×AV)} {st:List AObj} {df:List Nat} {s:AS} (h:StA L st df s):StA L (st++[]) df s:=by
 rw [List.append_nil];exact h
theorem zds (l:q7) (o kb n m:Nat) (I:List EntV→List AObj→Prop) (D:List AObj→Prop) (S:List AObj) (hm:S.length=m) (hn:n≤m) (hl:l.ents.length<1000000) (h0:I l.ents S)
  (hI:∀ r S',I r S'→S'[kb]? = some (.cells 0 59 [vp l]))
  (e7:∀ r S' S'',Ext n S' S''→I r S'→I r S'')
  (hY:∀ r e q S' cs,I r S'→S'[m]? = some (.cells 0 109 cs)→qa2 r=some (e,q)→x8 E o [entA e] S' fun b S''=>S''[m]? = some (.cells 0 109 cs)∧(b=true→I q S'')∧(b=false→D S'')) :
  qn E 162 [.yd o,.bx kb 0 0] S fun r S'=>(∃ i,qa2 i=none∧I i S')∨D S':=by
 refine qr Tryz.func162 rfl (Nat.le_of_ble_eq_true rfl) ?_;have hb:=hI _ S h0;have hmi:(l.ents.map entA).length=l.ents.length:=by simp
 repeat' (first|apply qm|apply qt|apply qg|apply qh|apply ql|(apply qe;exact rfl;apply cd_f;exact cRa)|(apply z6;(iterate 4 exact rfl))|(apply xx;(iterate 4 exact rfl))|(apply jh;(iterate 3 exact rfl))|(apply v7;exact rfl;exact rfl)|(apply qal;(iterate 3 exact rfl))|apply qw|(apply qak;exact rfl;exact rfl;exact hb;exact rfl;exact rfl))
 refine jx (fun (k:Nat) s=>∃ S' r,I r S'∧(S'.length=m∨∃ cs,S'[m]? = some (.cells 0 109 cs))∧k≤l.ents.length∧qa2 r=qa2 (l.ents.drop k)∧StA [(0,.yd o),(10,.sl 4 (l.ents.map entA) none),(11,Iv l.ents.length),(12,Iv k)] (S'++[]) [] s) (fun k=>l.ents.length - k) 0
  ⟨_,_,e7 _ _ _ (qhe (by omega)) h0,.inl (by simpa using hm),by omega,by simp,qto (jg ⟨rfl,rfl,congrArg (fun n:Nat=>Iv (n:Int)) hmi,rfl,trivial⟩)⟩ ?_
 rintro k _ ⟨S',r,hi,u7,hk,p9,t,rfl⟩;have g9:=zh3 u7;by_cases i8:k<l.ents.length
 ·have hx:l.ents[k]? = some l.ents[k]:=List.getElem?_eq_getElem i8
  have m7:(l.ents.map entA)[k]? = some (entA l.ents[k]):=by rw [List.getElem?_map,hx];rfl
  rw [List.drop_eq_getElem_cons i8,qa2] at p9;generalize l.ents[k]=e at hx m7 p9;obtain⟨cs,gw⟩:=zh2 (cs0:=(entA e).cells) u7;by_cases he:0<e.id
  ·rw [if_pos he] at p9
   repeat' (first|apply qm|apply qt|apply qg|apply qh|apply ql|(apply qu;(iterate 3 exact rfl))|(apply zo;(iterate 4 exact rfl))|(apply qhx;exact cAo)|(apply qe;exact rfl;apply vk;exact cAo)|(apply jp;exact rfl;exact rfl)|(apply zh;(iterate 3 exact rfl))|(apply jh;(iterate 3 exact rfl))|(apply jc;(iterate 5 exact rfl))|(apply zz;(iterate 11 exact rfl))|apply qw|(apply j6 (n:=k);(iterate 5 exact rfl);exact m7))
   apply qc1 (o:=o) rfl;refine x8.mono (hY r e _ _ cs (e7 _ _ _ (qhe (by omega)) hi) gw p9) ?_;rintro b S2 ⟨h1,h2,h3⟩
   show AOps _ _ _ _ _ _ _
   cases b
   ·skip
    repeat' (first|apply qh|(apply kj;exact rfl)|(apply zo;(iterate 4 exact rfl))|(apply qhx;exact cAo)|(apply q9;exact rfl;apply qg3;exact cAo)|(apply qe;exact rfl;apply qkp;exact cRa)|apply q6)
    exact qo rfl (yj rfl) (.inr (h3 rfl))
   ·skip
    repeat' (first|apply qg|apply qh|apply ql|(apply kj;exact rfl)|(apply zo;(iterate 4 exact rfl))|(apply qhx;exact cAo)|(apply q9;exact rfl;apply qg3;exact cAo)|(apply qe;exact rfl;apply qqv;exact cRa)|(apply zn;exact rfl;exact rfl;exact zg (by omega) (by omega))|apply qw)
    exact⟨k+1,⟨_,_,h2 rfl,.inr ⟨cs,h1⟩,by omega,rfl,qto (jg ⟨rfl,rfl,rfl,rfl,trivial⟩)⟩,by omega⟩
  ·rw [if_neg he] at p9
   repeat' (first|apply qm|apply qt|apply qg|apply qh|apply ql|(apply qu;(iterate 3 exact rfl))|(apply zo;(iterate 4 exact rfl))|(apply qu0;exact cAo)|(apply q9;exact rfl;apply qlc;exact cAo)|(apply qe;exact rfl;apply vk;exact cAo)|(apply qe;exact rfl;apply cd_f;exact cRa)|(apply zn;exact rfl;exact rfl;exact zg (by omega) (by omega))|(apply jp;exact rfl;exact rfl)|(apply zh;(iterate 3 exact rfl))|(apply jh;(iterate 3 exact rfl))|(apply jc;(iterate 5 exact rfl))|(apply zz;(iterate 11 exact rfl))|apply qw|(apply j6 (n:=k);(iterate 5 exact rfl);exact m7))
   exact⟨k+1,⟨_,_,e7 _ _ _ (qhe (by omega)) hi,.inr ⟨cs,gw⟩,by omega,p9,qto (jg ⟨rfl,rfl,rfl,rfl,trivial⟩)⟩,by omega⟩
 ·rw [List.drop_of_length_le (by omega),qa2] at p9
  repeat' (first|apply qm|apply qg|apply qh|(apply qu;(iterate 3 exact rfl))|(apply qe;exact rfl;apply wv;exact cAo)|apply ji)
  exact qo rfl (yj rfl) (.inl ⟨r,p9,e7 _ _ _ (qhe (by omega)) hi⟩)
def allY (r:List EntV):Option (SV×List EntV):=(qa2 r).map fun x=>(.a (entA x.1),x.2)
theorem zgr (l:q7) (hl:l.ents.length<1000000):ItC 162 59 [vp l] (evY allY) l.ents:=⟨fun o kb n m I D S hm hn h0 hI e7 hY=>by
 refine (zds l o kb n m I D S hm hn hl h0 hI e7 fun r e q S' cs hi u7 hx=>?_).mono ?_
 ·refine (hY r (entA e) q S' [.cells 0 109 cs] hi (fun j y hy=>?_) (by simp [evY,allY,hx,SV.ev])).mono fun b S'' ⟨h1,h2,h3⟩=>⟨by have:=h1 0 _ rfl;simpa using this,h2,h3⟩
  match j with
  | 0=>
   simp only [List.getElem?_cons_zero,Option.some.injEq] at hy;subst hy
   exact⟨u7,yn rfl⟩
  |j+1=>simp at hy
 ·rintro r S' (⟨i,h1,h2⟩|h)
  ·exact .inl ⟨i,by simp [evY,allY,h1],h2⟩
  ·exact .inr h⟩
theorem zhj (l:q7):ki E 119 [.a (vp l)] 0 (hpF []) ⟨.fn (.func 162) [] [.bx 0 0],j5 [],[(0,some (.cells 59 [.a (vp l)]))]++vd [],1⟩:=by
 refine wl [.a (vp l)] [] 0 (.fn (.func 162) [] [.bx 0 0]) [(0,some (.cells 59 [.a (vp l)]))] 1 Tryz.func119 rfl rfl rfl rfl fun S F ρ=>?_;apply qf [1];repeat' (first|apply And.intro|(intro h;try exact cDd)|exact cSd|apply qd [1]|refine exr ?_|refine qk ?_)
@[reducible] def stzA (x : Int × List Fld) : AV := .ag [Iv x.1, zl x.2]
@[reducible] def qwt (s : List (Int × List Fld)) : AV := .sl 2 (s.map stzA) none
theorem q5x (s:List (Int×List Fld)):Pure (qwt s):=qb7 fun x hx=>by
 obtain⟨f,_,rfl⟩:=List.mem_map.1 hx;intro y hy;simp only [AV.cells,List.mem_cons,List.not_mem_nil,or_false] at hy;rcases hy with rfl|rfl
 ·exact q8 _
 ·exact y4 _
theorem qia (es:List EntV):(stzF es).length≤es.length:=by
 unfold stzF;rw [List.length_map];exact List.length_filter_le _ _
theorem qz0 {N:Nat} {B:Bs} {C:Conf} {Q:Exit→Conf→Prop} {X:Type} {f:Operand} {p:Tmp} {asg body:Code} (l:q7) (kb n0:Nat) (ks:List Nat) (I:X→Conf) (sl0:List (Nat×SV)) (P:List EntV→X→Prop) (D:Code→X→Prop) (x0:X) (h0:P l.ents x0)
  (he:EntA B.n0 C (I x0)) (hz:¬ B.dz) (hl:l.ents.length<1000000) (fk:∀ x,(I x).sl=sl0)
  (hf:sval N sl0 f=some (.fn (.func 162) [] [.bx kb 0]))
  (tw:∀ x,lkS (I x).hp kb=some (some (.cells 59 [.a (vp l)])))
  (hr:∀ x,qby n0 ks (I x).sl (I x).hp (I x).nx=true) (h0r:(ksIn n0 ks (I x0).hp && Nat.ble B.n0 n0)=true)
  (hb:∀ r e q x,P r x→qa2 r=some (e,q)→RA E N n0 asg (fun F ρ C1=>RB E N F ρ n0 body (rndQ n0 (P q) D I) C1) ⟨(p,.a (entA e))::(I x).sl,(I x).hp,(I x).nx⟩)
  (hn:∀ r x,qa2 r=none→P r x→Q .normal (I x)) (hd:∀ c x,D c x→q4c Q c (I x)):Sm E none N B (.rangeFunc f #[p] asg body) Q C:=by
 refine qo0 (zgr l hl) Tryz.call162 (fun i v j h=>?_) kb n0 [.a (vp l)] (fun _=>rfl) ks I sl0 P D x0 h0 he hz fk hf tw hr h0r (fun i x v j hp h=>?_) (fun i x h hp=>?_) hd
 ·unfold allY at h
  cases hx:qa2 i with
  |none=>rw [hx] at h;simp at h
  |some y=>
   rw [hx] at h;simp only [Option.map_some,Option.some.injEq,Prod.mk.injEq] at h;rw [← h.1]
   try rfl
 ·unfold allY at h
  cases hx:qa2 i with
  |none=>rw [hx] at h;simp at h
  |some y=>
   rw [hx] at h;simp only [Option.map_some,Option.some.injEq,Prod.mk.injEq] at h;obtain⟨h1,h2⟩:=h;rw [← h1,← h2];exact hb i y.1 y.2 x hp hx
 ·unfold allY at h
  cases hx:qa2 i with
  |none=>exact hn i x hx hp
  |some y=>rw [hx] at h;simp at h
theorem qrp (l:q7) (st:List AObj) (hl:l.ents.length<1000000) (hI:∀ e∈l.ents,e.x.fields.length<1000000):qn E 81 [vp l] st fun r st'=>r=qwt (stzF l.ents)∧st'=st:=by
 refine zt [.a (vp l)] (q5x _) Tryz.func81 rfl rfl (fun _=>rfl) rfl fun S0=>?_;apply qf [];repeat' (first|apply And.intro|(intro h;try exact cDd)|exact⟨Tryz.call119⟩|(refine jk (zhj l) ?_)|exact cSd|apply qd []|refine exr ?_|refine qk ?_)
 refine qz0 (X:=List (Int×List Fld)) l 1 2 [0,1] (fun out=>⟨[(3,.bx 0 0),(6,.fn (.func 162) [] [.bx 1 0])],[(0,some (.cells 152 [.tp 2])),(1,some (.cells 59 [.a (vp l)])),(2,some (.tip 2 155 (out.map stzA)))],3⟩) _
  (fun r out=>out++stzF r=stzF l.ents∧out.length+r.length≤l.ents.length∧∀ y∈r,y∈l.ents) (fun _ _=>False) [] ⟨by simp,by simp,fun _ h=>h⟩ ?_ id hl (fun _=>rfl) rfl (fun _=>rfl) (fun _=>rfl) rfl ?_ ?_ (fun _ _ h=>h.elim)
 ·skip
  repeat' (first|apply And.intro|(intro h;try exact cDd)|exact cSd|apply qd []|refine exr ?_|refine qk ?_)
 ·rintro r e q out ⟨h1,h2,h3⟩ hx
  obtain⟨g1,g2,g3,g4,g5⟩:=qru hx;rw [g3] at h1;have cq:=fun st=>qbv e.x.fields st (hI e (h3 e g2));have g9:(out.map stzA).length=out.length:=by simp
  refine RA.mk fun S F ρ rd=>?_;apply qf [];repeat' (first|apply And.intro|(intro h;try exact cDd)|(refine RB.mk fun S rd=>?_;apply qf [])|exact⟨Tryz.call91⟩|refine cpe cq ?_|(refine Exists.intro (out++[(e.id,e.x.fields)]) ⟨⟨by rw [← h1];simp,by simp;omega,fun y hy=>h3 y (g5 y hy)⟩,?_⟩)|exact cSd|apply qd []|refine exr ?_|refine qk ?_)
  all_goals first|(simp [SV.evs,SV.ev];done)|(simp [SV.evs];omega)
 ·rintro r out hx ⟨h1,h2,h3⟩
  rw [qrt hx,List.append_nil] at h1;rw [← h1];repeat' (first|apply And.intro|(intro h;try exact cDd)|exact cSd|apply qd []|refine exr ?_|refine qk ?_)
end Go.Proofs.YtapblfabkbdgcaaGreatDoor
namespace Go.Pl
open Go Go.Proofs
theorem qlm (a b:List EntV):stzF (a++b)=stzF a++stzF b:=by simp [stzF]
end Go.Pl
namespace Go.Pl
open Go Go.Proofs Go.Proofs.YtapblfabkbdgcaaGreatDoor
def idsL (es:List EntV):List Int:=(es.filter fun e=>decide (0<e.id)).map fun e=>e.id
theorem qbd (a b:List EntV):idsL (a++b)=idsL a++idsL b:=by simp [idsL]
theorem qeb (e:EntV) (b:List EntV):idsL (e::b)=if 0<e.id then e.id::idsL b else idsL b:=by
 unfold idsL;by_cases h:0<e.id
 ·rw [if_pos h,List.filter_cons_of_pos (by simpa using h)];rfl
 ·rw [if_neg h,List.filter_cons_of_neg (by simpa using h)]
theorem qpq {es:List EntV} {n:Int}:n∈idsL es↔0<n∧∃ e∈es,e.id=n:=by
 unfold idsL;simp only [List.mem_map,List.mem_filter,decide_eq_true_eq];constructor
 ·rintro⟨e,⟨he,h⟩,rfl⟩
  exact⟨h,e,he,rfl⟩
 ·rintro⟨h,e,he,rfl⟩
  exact⟨e,⟨he,h⟩,rfl⟩
structure GN (l:q7):Prop where
 nd:(idsL l.ents).Nodup
 lt:∀ e∈l.ents,e.id<l.next
 nx:1≤l.next
theorem q8g {l:q7} {x:za} (h:GN l):GN (wj l x):=by
 obtain⟨h1,h2,h3⟩:=h;unfold wj;split
 ·refine⟨?_,fun e he=>?_,by simp only;omega⟩
  ·simp only
   rw [qbd,qeb,if_pos (by simp only;omega)];refine List.nodup_append.2 ⟨h1,by simp [idsL],fun a ha b hb=>?_⟩;obtain⟨_,e,he,rfl⟩:=qpq.1 ha;have:=h2 e he;simp [idsL] at hb;omega
  ·rcases List.mem_append.1 he with he|he
   ·have:=h2 e he;simp only;omega
   ·simp only [List.mem_cons,List.not_mem_nil,or_false] at he;subst he;simp only;omega
 ·refine⟨?_,fun e he=>?_,h3⟩
  ·simp only
   rw [qbd,qeb,if_neg (by simp)]
   simpa [idsL] using h1
  ·rcases List.mem_append.1 he with he|he
   ·exact h2 e he
   ·simp only [List.mem_cons,List.not_mem_nil,or_false] at he;subst he;simp only;omega
theorem qva:∀ (its:List za) (l:q7),GN l→GN (its.foldl wj l)
 | [],l,h=>h
 |x::r,l,h=>qva r (wj l x) (q8g h)
theorem q8b (its:List za):GN (ofF its):=qva its ⟨[],1,0⟩ ⟨by simp [idsL],by simp,by simp⟩
theorem zba {es:List EntV} {i:Nat} {e:EntV} {x:za} (h:es[i]? = some e):idsL (es.set i ⟨x,e.id⟩)=idsL es:=by
 obtain⟨d5,rfl⟩:=List.getElem?_eq_some_iff.1 h;have e1:=List.take_append_drop i es;rw [List.drop_eq_getElem_cons d5] at e1;rw [List.set_eq_take_append_cons_drop,if_pos d5]
 conv=>rhs;rw [← e1]
 rw [qbd,qbd,qeb,qeb]
theorem zci {l:q7} (h:GN l) (id:Int) (fs:List Fld):GN (xe l id fs).2:=by
 unfold xe;split
 ·exact h
 ·split
  ·unfold qg5
   split
   ·rename_i e he
    refine⟨by simp only;rw [zba he];exact h.nd,fun y hy=>?_,h.nx⟩;rcases List.mem_or_eq_of_mem_set hy with hy|rfl
    ·exact h.lt y hy
    ·exact h.lt e (List.mem_of_getElem? he)
   ·exact h
  ·exact h
theorem zee {l:q7} (h:GN l) (id:Int):GN (delF l id).2:=by
 unfold delF;split
 ·exact h
 ·generalize (atF l id).toNat=i
  refine⟨?_,fun y hy=>?_,h.nx⟩
  ·have:=h.nd
   rw [← List.take_append_drop i l.ents,qbd] at this;unfold delL;simp only;rw [qbd];refine List.Nodup.sublist (List.Sublist.append (List.Sublist.refl _) ?_) this;unfold idsL;refine List.Sublist.map _ (List.Sublist.filter _ ?_);rw [← List.drop_drop];exact List.drop_sublist 1 _
  ·rcases List.mem_append.1 hy with hy|hy
   ·exact h.lt y (List.mem_of_mem_take hy)
   ·exact h.lt y (List.mem_of_mem_drop hy)
theorem zew {l:q7} (h:GN l) (id:Int) (fs:List Fld):GN (insF l id fs).2.2:=by
 unfold insF;split
 ·exact h
 ·split
  ·split
   ·exact h
   ·generalize (atF l id+1).toNat=k
    have hn:=h.nx;refine⟨?_,fun y hy=>?_,by simp only [insL];omega⟩
    ·have:=h.nd
     rw [← List.take_append_drop k l.ents,qbd] at this;unfold insL;simp only;rw [qbd,qeb,if_pos (by simp only;omega)];refine (List.perm_middle.nodup_iff).2 (List.nodup_cons.2 ⟨fun hm=>?_,this⟩);rw [← qbd,List.take_append_drop] at hm;obtain⟨_,e,he,gq⟩:=qpq.1 hm;have gq:e.id=l.next:=gq;have:=h.lt e he;omega
    ·show y.id<l.next+1
     rcases List.mem_append.1 hy with hy|hy
     ·have:=h.lt y (List.mem_of_mem_take hy);omega
     ·rcases List.mem_cons.1 hy with rfl|hy
      ·simp only;omega
      ·have:=h.lt y (List.mem_of_mem_drop hy);omega
  ·exact h
theorem qej (e:EntV) (b:List EntV):stzF (e::b)=if 0<e.id then (e.id,e.x.fields)::stzF b else stzF b:=by
 unfold stzF;by_cases h:0<e.id
 ·rw [if_pos h,List.filter_cons_of_pos (by simpa using h)];rfl
 ·rw [if_neg h,List.filter_cons_of_neg (by simpa using h)]
theorem qga:∀ (es:List EntV) (a b:List (Int×List Fld)) (x:Int×List Fld),stzF es=a++x::b→∃ A e B,es=A++e::B∧stzF A=a∧stzF B=b∧0<e.id∧x=(e.id,e.x.fields)
 | [],a,b,x,h=>by
  have:stzF []=[]:=rfl;rw [this] at h
  cases a <;> simp at h
 |e::r,a,b,x,h=>by
  rw [qej] at h;by_cases he:0<e.id
  ·rw [if_pos he] at h
   cases a with
   |nil=>
    simp only [List.nil_append,List.cons.injEq] at h
    exact⟨[],e,r,rfl,rfl,h.2,he,h.1.symm⟩
   |cons y a=>
    simp only [List.cons_append,List.cons.injEq] at h;obtain⟨A,e',B,rfl,h1,h2,h3,h4⟩:=qga r a b x h.2;exact⟨e::A,e',B,rfl,by rw [qej,if_pos he,h1,h.1],h2,h3,h4⟩
  ·rw [if_neg he] at h
   obtain⟨A,e',B,rfl,h1,h2,h3,h4⟩:=qga r a b x h;exact⟨e::A,e',B,rfl,by rw [qej,if_neg he,h1],h2,h3,h4⟩
theorem q2u {id:Int} {e:EntV} {B:List EntV} (he:e.id=id):∀ (A:List EntV) (k:Nat),(∀ y∈A,y.id≠id)→yt id k (A++e::B)=((k+A.length:Nat):Int)
 | [],k,_=>by
  rw [List.nil_append,yt,if_pos he]
  rfl
 |y::A,k,h=>by
  rw [List.cons_append,yt,if_neg (h y (by simp)),q2u he A (k+1) fun z hz=>h z (by simp [hz])];simp only [List.length_cons];omega
theorem qo6 {l:q7} {A B:List EntV} {e:EntV} (h:GN l) (hs:l.ents=A++e::B) (he:0<e.id):atF l e.id=(A.length:Int):=by
 unfold atF;rw [if_neg (by omega),hs,q2u rfl A 0 fun y hy hh=>?_]
 ·simp
 ·have s9:=h.nd
  rw [hs,qbd,qeb,if_pos he] at s9;have hm:y.id∈idsL A:=qpq.2 ⟨by omega,y,hy,rfl⟩;exact (List.nodup_append.1 s9).2.2 _ hm _ (by simp) hh
theorem zcm {l:q7} {a b:List (Int×List Fld)} {id:Int} {f fs:List Fld} (h:GN l) (hs:stzF l.ents=a++(id,f)::b) (hc:zw fs = .no):(xe l id fs).1 = .no∧stzF (xe l id fs).2.ents=a++(id,fs)::b∧(xe l id fs).2.next=l.next:=by
 obtain⟨A,e,B,h1,h2,h3,h4,h5⟩:=qga _ _ _ _ hs;simp only [Prod.mk.injEq] at h5;obtain⟨rfl,rfl⟩:=h5;unfold xe;rw [qo6 h h1 h4,if_neg (by omega),if_pos hc,Int.toNat_natCast];unfold qg5;have hg:l.ents[A.length]? = some e:=by rw [h1];simp
 rw [hg];refine⟨rfl,?_,rfl⟩;simp only;rw [h1,List.set_append_right _ _ (Nat.le_refl _),Nat.sub_self,List.set_cons_zero,qlm,qej,if_pos h4,h2,h3];unfold xg;rw [if_pos hc]
theorem zei {l:q7} {a b:List (Int×List Fld)} {id:Int} {f:List Fld} (h:GN l) (hs:stzF l.ents=a++(id,f)::b):(delF l id).1 = .no∧stzF (delF l id).2.ents=a++b∧(delF l id).2.next=l.next:=by
 obtain⟨A,e,B,h1,h2,h3,h4,h5⟩:=qga _ _ _ _ hs;simp only [Prod.mk.injEq] at h5;obtain⟨rfl,rfl⟩:=h5;unfold delF;rw [qo6 h h1 h4,if_neg (by omega),Int.toNat_natCast];refine⟨rfl,?_,rfl⟩;unfold delL;simp only;rw [h1,List.take_left,show (A++e::B).drop (A.length+1)=B by simp,qlm,h2,h3]
theorem ze0 {l:q7} {a b:List (Int×List Fld)} {bh:Int} {fs:List Fld} (h:GN l) (hs:stzF l.ents=a++b) (hb:bh=(a.getLast?.map Prod.fst).getD 0) (hc:zw fs = .no) :
  (400≤l.many∧(insF l bh fs).2.1 = .num 11)∨((insF l bh fs).2.1 = .no∧stzF (insF l bh fs).2.2.ents=a++(l.next,fs)::b∧(insF l bh fs).2.2.next=l.next+1∧(insF l bh fs).1=l.next):=by
 have hn:=h.nx
 have fin:∀ A B:List EntV,l.ents=A++B→stzF A=a→stzF B=b→atF l bh+1=(A.length:Int)→(¬ (atF l bh<0∧bh≠0)) →
   (400≤l.many∧(insF l bh fs).2.1 = .num 11)∨((insF l bh fs).2.1 = .no∧stzF (insF l bh fs).2.2.ents=a++(l.next,fs)::b∧(insF l bh fs).2.2.next=l.next+1∧(insF l bh fs).1=l.next):=fun A B h1 h2 h3 h4 h5=>by
  unfold insF;rw [if_neg h5,if_pos hc];by_cases hm:400≤l.many
  ·rw [if_pos hm]
   exact .inl ⟨hm,rfl⟩
  ·rw [if_neg hm,h4,Int.toNat_natCast]
   refine .inr ⟨rfl,?_,rfl,rfl⟩;unfold insL;simp only;rw [h1,List.take_left,List.drop_left,qlm,qej,if_pos (by simp only;omega),h2,h3];unfold xg;rw [if_pos hc]
 rcases List.eq_nil_or_concat a with rfl | ⟨a',x,rfl⟩
 ·have h0:bh=0:=by simpa using hb
  subst h0;refine fin [] l.ents rfl rfl (by simpa using hs) ?_ (by simp);unfold atF;rw [if_pos (by omega)];rfl
 ·have hx:bh=x.1:=by simpa using hb
  subst hx;rw [List.concat_eq_append,List.append_assoc] at hs;obtain⟨A,e,B,h1,h2,h3,h4,h5⟩:=qga _ _ _ _ hs;subst h5;have ha:=qo6 h h1 h4;refine fin (A++[e]) B (by rw [h1];simp) ?_ h3 (by rw [ha];simp) (by rw [ha];omega);rw [qlm,qej,if_pos h4,h2];simp [stzF]
def zr:List Int→List (Int×List Fld)→List (List Fld)→Int→Int→List qq
 | [],_,_,_,_=>[]
 |w::ws,S,R,bh,nx=>
  if w=4 then⟨3,bh,R.headD []⟩::zr ws S R.tail nx (nx+1)
  else if w=3 then⟨2,(S.headD (0,[])).1,[]⟩::zr ws S.tail R bh nx
  else if w=2 then⟨1,(S.headD (0,[])).1,R.headD []⟩::zr ws S.tail R.tail (S.headD (0,[])).1 nx
  else zr ws S.tail R.tail (S.headD (0,[])).1 nx
inductive OkW:List Int→List (Int×List Fld)→List (List Fld)→Prop
 |nil:OkW [] [] []
 |keep {s:Int×List Fld} {S:List (Int×List Fld)} {R:List (List Fld)} {ws:List Int}:OkW ws S R→OkW (1::ws) (s::S) (s.2::R)
 |change {s:Int×List Fld} {r:List Fld} {S:List (Int×List Fld)} {R:List (List Fld)} {ws:List Int}:OkW ws S R→OkW (2::ws) (s::S) (r::R)
 |drop {s:Int×List Fld} {S:List (Int×List Fld)} {R:List (List Fld)} {ws:List Int}:OkW ws S R→OkW (3::ws) (s::S) R
 |add {r:List Fld} {S:List (Int×List Fld)} {R:List (List Fld)} {ws:List Int}:OkW ws S R→OkW (4::ws) S (r::R)
def wa (done:List (Int×List Fld)):Int:=(done.getLast?.map Prod.fst).getD 0
theorem qjs (done:List (Int×List Fld)) (x:Int×List Fld):wa (done++[x])=x.1:=by simp [wa]
theorem q9d {ws:List Int} {S:List (Int×List Fld)} {R:List (List Fld)} (h:OkW ws S R):∀ (l:q7) (done:List (Int×List Fld)) (k:Nat) (ids:List Int),GN l→stzF l.ents=done++S→(∀ r∈R,zw r = .no) →
  (∃ j,(v8 k (zr ws S R (wa done) l.next) l ids).1 = .at' j 11)∨((v8 k (zr ws S R (wa done) l.next) l ids).1 = .no∧(stzF (v8 k (zr ws S R (wa done) l.next) l ids).2.1.ents).map Prod.snd=done.map Prod.snd++R):=by
 induction h with
 |nil=>
  intro l done k ids hg hs hc;refine .inr ⟨rfl,?_⟩
  show (stzF l.ents).map Prod.snd=_
  rw [hs]
  simp
 | @keep s S R ws h ih=>
  intro l done k ids hg hs hc
  have e:zr (1::ws) (s::S) (s.2::R) (wa done) l.next=zr ws S R (wa (done++[s])) l.next:=by
   rw [qjs];simp [zr]
  rw [e];have:=ih l (done++[s]) k ids hg (by simpa using hs) fun r hr=>hc r (by simp [hr])
  simpa using this
 | @change s r S R ws h ih=>
  intro l done k ids hg hs hc;obtain⟨h1,h2,h3⟩:=zcm (fs:=r) hg hs (hc r (by simp))
  have e:zr (2::ws) (s::S) (r::R) (wa done) l.next=⟨1,s.1,r⟩::zr ws S R (wa (done++[(s.1,r)])) (xe l s.1 r).2.next:=by
   rw [qjs,h3];simp [zr]
  have ho:oneF l ⟨1,s.1,r⟩=(0,xe l s.1 r):=by simp [oneF]
  rw [e,v8,ho];simp only;rw [if_pos h1];have:=ih (xe l s.1 r).2 (done++[(s.1,r)]) (k+1) (if (0:Int)<0 then ids++[0] else ids) (zci hg _ _) (by simpa using h2) fun r hr=>hc r (by simp [hr])
  simpa using this
 | @drop s S R ws h ih=>
  intro l done k ids hg hs hc;obtain⟨h1,h2,h3⟩:=zei hg hs
  have e:zr (3::ws) (s::S) R (wa done) l.next=⟨2,s.1,[]⟩::zr ws S R (wa done) (delF l s.1).2.next:=by
   rw [h3];simp [zr]
  have ho:oneF l ⟨2,s.1,[]⟩=(0,delF l s.1):=by simp [oneF]
  rw [e,v8,ho];simp only;rw [if_pos h1];have:=ih (delF l s.1).2 done (k+1) (if (0:Int)<0 then ids++[0] else ids) (zee hg _) h2 hc
  simpa using this
 | @add r S R ws h ih=>
  intro l done k ids hg hs hc;have ho:oneF l ⟨3,wa done,r⟩=insF l (wa done) r:=by simp [oneF]
  have e0:zr (4::ws) S (r::R) (wa done) l.next=⟨3,wa done,r⟩::zr ws S R l.next (l.next+1):=by simp [zr]
  rw [e0,v8,ho];rcases ze0 (fs:=r) hg hs rfl (hc r (by simp)) with⟨_,h1⟩ | ⟨h1,h2,h3,h4⟩
  ·have hi:(insF l (wa done) r).2.1 = .num 11:=h1
   rw [hi,if_neg (by simp)];exact .inl ⟨k,rfl⟩
  ·have h1:(insF l (wa done) r).2.1 = .no:=h1
   have h2:stzF (insF l (wa done) r).2.2.ents=done++(l.next,r)::S:=h2;have h3:(insF l (wa done) r).2.2.next=l.next+1:=h3;rw [h1,if_pos rfl];have e:zr ws S R l.next (l.next+1)=zr ws S R (wa (done++[(l.next,r)])) (insF l (wa done) r).2.2.next:=by rw [qjs,h3]
   rw [e];have:=ih (insF l (wa done) r).2.2 (done++[(l.next,r)]) (k+1) (if 0<(insF l (wa done) r).1 then ids++[(insF l (wa done) r).1] else ids) (zew hg _ _) (by simpa using h2) fun r hr=>hc r (by simp [hr])
   simpa using this
theorem qnw {ws t:List Int} {S S2:List (Int×List Fld)} {R R2:List (List Fld)} (h:OkW ws S R) (h2:OkW t S2 R2):OkW (ws++t) (S++S2) (R++R2):=by
 induction h with
 |nil=>exact h2
 |keep _ ih=>exact .keep ih
 |change _ ih=>exact .change ih
 |drop _ ih=>exact .drop ih
 |add _ ih=>exact .add ih
theorem qic (S:List (Int×List Fld)) (R:List (List Fld)):∀ (n i j:Nat),i≤S.length→j≤R.length→i+j≤n→OkW (wayB (S.map Prod.snd) R n i j).reverse (S.take i) (R.take j)
 | 0,i,j,hi,hj,h=>by
  obtain⟨rfl,rfl⟩:i=0∧j=0:=by omega
  exact .nil
 |n+1,i,j,hi,hj,h=>by
  rw [wayB];by_cases h0:i=0∧j=0
  ·obtain⟨rfl,rfl⟩:=h0
   rw [if_pos ⟨rfl,rfl⟩];exact .nil
  ·rw [if_neg h0]
   have hl:=qmy (S.map Prod.snd) R i j;have hr:=qk2 (S.map Prod.snd) R i j h0
   have htS:0<i→∃ s,S.take i=S.take (i - 1)++[s]∧S[i - 1]? = some s:=fun hp=>by
    have d5:i - 1<S.length:=by omega
    refine⟨S[i - 1],?_,List.getElem?_eq_getElem d5⟩;rw [List.take_append_getElem d5,show i - 1+1=i by omega]
   have htR:0<j→∃ r,R.take j=R.take (j - 1)++[r]∧R[j - 1]? = some r:=fun hp=>by
    have d5:j - 1<R.length:=by omega
    refine⟨R[j - 1],?_,List.getElem?_eq_getElem d5⟩;rw [List.take_append_getElem d5,show j - 1+1=j by omega]
   rw [List.reverse_cons];have hv:=qmz (S.map Prod.snd) R i j;by_cases w4:xc (S.map Prod.snd) R i j=4
   ·have hj0:=hr (by omega)
    obtain⟨r,e1,_⟩:=htR hj0;rw [if_pos w4,if_neg (by omega),w4,e1];have:=qnw (qic S R n i (j - 1) hi (by omega) (by omega)) (OkW.add (r:=r) .nil)
    simpa using this
   ·have hi0:=hl w4
    obtain⟨s,e1,e3⟩:=htS hi0;by_cases w3:xc (S.map Prod.snd) R i j=3
    ·rw [if_neg w4,if_pos w3,w3,e1]
     have:=qnw (qic S R n (i - 1) j (by omega) hj (by omega)) (OkW.drop (s:=s) .nil)
     simpa using this
    ·have hj0:=hr w3
     obtain⟨r,e2,e4⟩:=htR hj0;rw [if_neg w4,if_neg w3,e1,e2];by_cases w2:xc (S.map Prod.snd) R i j=2
     ·rw [w2]
      exact qnw (qic S R n (i - 1) (j - 1) (by omega) (by omega) (by omega)) (OkW.change (s:=s) (r:=r) .nil)
     ·have w1:xc (S.map Prod.snd) R i j=1:=by omega
      have hk:(S.map Prod.snd)[i - 1]? = R[j - 1]?:=by
       unfold xc at w1;split at w1
       ·rename_i hh;exact hh.2.2.1
       ·split at w1
        ·omega
        ·split at w1 <;> omega
      rw [List.getElem?_map,e3,e4] at hk;simp only [Option.map_some,Option.some.injEq] at hk;subst hk;rw [w1];exact qnw (qic S R n (i - 1) (j - 1) (by omega) (by omega) (by omega)) (OkW.keep (s:=s) .nil)
theorem qtw (S:List (Int×List Fld)) (R:List (List Fld)):OkW (wayF (S.map Prod.snd) R) S R:=by
 have:=qic S R (S.length+R.length) S.length R.length (Nat.le_refl _) (Nat.le_refl _) (Nat.le_refl _);rw [List.take_length,List.take_length] at this;unfold wayF;rw [List.length_map];exact this
theorem q39 {fs:List Fld} (h:GF fs) (b8:fs≠[]):zw fs = .no:=by
 unfold zw;rw [if_neg b8,if_neg (by have:=h.1;omega)];have:=qog 0 fs [] fun x hx=>(qba x).2 (h.2 x hx);rw [List.append_nil] at this;rw [this];rfl
theorem q1a {x:za} (h:x9 x) (hk:x.kind=3):zw x.fields = .no:=by
 have hp:=qzf (its:=[x]) (by simpa using h) (by simp [cntI,hk]);have ha:y0 [x]=[x]:=by simp [y0,jw]
 have hm:=qjw (jf (y0 [x])) x (by rw [hp,ha];simp);exact q39 hm.1 (hm.2.1 hk)
theorem q9r {l:q7} (h:GL l):∀ r∈(stzF l.ents).map Prod.snd,zw r = .no:=fun r hr=>by
 unfold stzF at hr;simp only [List.map_map,List.mem_map,List.mem_filter,decide_eq_true_eq] at hr;obtain⟨e,⟨he,h0⟩,rfl⟩:=hr;exact q1a (h.ok e he).1 ((h.ok e he).2.1 h0)
theorem qq1:∀ (b:List qq) (k:Nat),(∀ x∈b,gErr x = .no)→yf k b = .no
 | [],_,_=>rfl
 |x::r,k,h=>by
  rw [yf,if_pos (by rw [h x (by simp)];rfl),qq1 r (k+1) fun y hy=>h y (by simp [hy])]
theorem qoz {ws:List Int} {S:List (Int×List Fld)} {R:List (List Fld)} (h:OkW ws S R):∀ (bh nx:Int),(∀ r∈R,zw r = .no)→∀ x∈zr ws S R bh nx,gErr x = .no:=by
 induction h with
 |nil=>intro bh nx hc x hx;simp [zr] at hx
 | @keep s S R ws h ih=>
  intro bh nx hc x hx;have e:zr (1::ws) (s::S) (s.2::R) bh nx=zr ws S R s.1 nx:=by simp [zr]
  rw [e] at hx
  exact ih _ _ (fun r hr=>hc r (by simp [hr])) x hx
 | @change s r S R ws h ih=>
  intro bh nx hc x hx;have e:zr (2::ws) (s::S) (r::R) bh nx=⟨1,s.1,r⟩::zr ws S R s.1 nx:=by simp [zr]
  rw [e] at hx;rcases List.mem_cons.1 hx with rfl|hx
  ·simpa [gErr] using hc r (by simp)
  ·exact ih _ _ (fun r hr=>hc r (by simp [hr])) x hx
 | @drop s S R ws h ih=>
  intro bh nx hc x hx;have e:zr (3::ws) (s::S) R bh nx=⟨2,s.1,[]⟩::zr ws S R bh nx:=by simp [zr]
  rw [e] at hx;rcases List.mem_cons.1 hx with rfl|hx
  ·simp [gErr]
  ·exact ih _ _ hc x hx
 | @add r S R ws h ih=>
  intro bh nx hc x hx;have e:zr (4::ws) S (r::R) bh nx=⟨3,bh,r⟩::zr ws S R nx (nx+1):=by simp [zr]
  rw [e] at hx;rcases List.mem_cons.1 hx with rfl|hx
  ·simpa [gErr] using hc r (by simp)
  ·exact ih _ _ (fun r hr=>hc r (by simp [hr])) x hx
def wi (l:q7) (R:List (List Fld)):List qq:=zr (wayF ((stzF l.ents).map Prod.snd) R) (stzF l.ents) R 0 l.next
def vl (l:q7) (b:List qq):ErrV×q7:=if b=[] then (.no,l) else ((doF l b).1,(doF l b).2.1)
theorem q7d {l:q7} {R:List (List Fld)} (h:GN l) (hc:∀ r∈R,zw r = .no) (tk:(wi l R).length≤40) :
  (∃ j,(vl l (wi l R)).1 = .at' j 11)∨((vl l (wi l R)).1 = .no∧(stzF (vl l (wi l R)).2.ents).map Prod.snd=R):=by
 have hw:=qtw (stzF l.ents) R;have hs:=q9d hw l [] 0 [] h rfl hc;have hg:=qoz hw 0 l.next hc;have hl:wa []=0:=rfl;rw [hl] at hs;unfold vl;by_cases hb:wi l R=[]
 ·rw [if_pos hb]
  unfold wi at hb;rw [hb] at hs;rcases hs with⟨j,hs⟩ | ⟨_,hs⟩
  ·simp [v8] at hs
  ·exact .inr ⟨rfl,by simpa [v8] using hs⟩
 ·rw [if_neg hb]
  have he:eErr (wi l R) = .no:=by
   have:=List.length_pos_iff.2 hb;unfold eErr;rw [if_neg (by omega)];exact qq1 _ 0 hg
  unfold doF;rw [if_pos he]
  simpa [wi] using hs
def runT (text:qc):RunV:=(ziv (zdc text).2.base (zdc text).2.batches).2
end Go.Pl
namespace Go.Pl
open Go Go.Proofs Go.Av Go.Proofs.YtapblfabkbdgcaaGreatDoor
def dupS (key:qc) (pre:List (Int×List Fld)) (x:Int×List Fld):Bool:=(qnf key x.2).any fun v=>pre.any fun y=>decide (v∈qnf key y.2)
def zaj (r:qca) (pre:List (Int×List Fld)) (x:Int×List Fld):Prop:=x.2.any (badR r)=true∨(r.kind=1∧cntR r x.2=0)∨(r.kind=2∧1<cntR r x.2)∨(r.kind=7∧dupS r.key pre x=true)
instance (r:qca) (pre:List (Int×List Fld)) (x:Int×List Fld):Decidable (zaj r pre x):=inferInstanceAs (Decidable (_∨(_∧_)∨(_∧_)∨(_∧_)))
end Go.Pl
namespace Go.Proofs.YtapblfabkbdgcaaGreatDoor
open Go Go.Av Go.RowKit Go.Proofs Go.Pl
theorem q66 (fs:List Fld) (st:List AObj) (hl:fs.length<1000000):qn E 48 [zl fs] st fun r st'=>r=zl fs∧st'=st:=by
 refine zt [.a (zl fs)] (y4 _) Tryz.func48 rfl rfl (fun _=>rfl) rfl fun S0=>?_;have g9:(fs.map fldA).length=fs.length:=by simp
 apply qf [3];repeat' (first|apply And.intro|(intro h;try exact cDd)|exact cSd|apply qd [3]|refine exr ?_|refine qk ?_)
theorem zh1 (b:List qq) (st:List AObj) (hl:b.length<1000000) (hf:∀ x∈b,x.fields.length<1000000):qn E 24 [jo b] st fun r st'=>r=jo b∧st'=st:=by
 refine zt [.a (jo b)] (qb5 _) Tryz.func24 rfl rfl (fun _=>rfl) rfl fun S0=>?_;have g9:(b.map je).length=b.length:=by simp
 apply qf [6];repeat' (first|apply And.intro|(intro h;try exact cDd)|exact cSd|apply qd [6]|refine exr ?_|refine qk ?_)
 refine ke (X:=Nat) (fun k=>⟨[(3,.tp 0),(7,.a (jo b)),(8,.i (b.map je).length),(9,.i k)],[(0,some (.tip 3 55 ((b.take k).map je)))],1⟩) (fun k=>k≤b.length) (fun k=>b.length - k) 0 (by omega) ?_ ?_
 ·skip
  repeat' (first|apply And.intro|(intro h;try exact cDd)|exact cSd|apply qd []|refine exr ?_|refine qk ?_)
  all_goals (simp;done)
 ·rintro k hk
  by_cases hc:k<b.length
  ·obtain⟨y,hy⟩:∃ y,b[k]? = some y:=⟨_,List.getElem?_eq_getElem hc⟩
   have c8:=qir hy;have gp:=fun st=>q66 y.fields st (hf y (List.mem_of_getElem? hy))
   have cd:b.take (k+1)=b.take k++[y]:=by
    obtain⟨_,rfl⟩:=List.getElem?_eq_some_iff.1 hy;rw [List.take_append_getElem]
   have htl:((b.take k).map je).length=k:=by simp;omega
   apply qf [5,22];repeat' (first|apply And.intro|(intro h;try exact cDd)|(refine Exists.intro (k) ⟨by omega,_,c8,?_⟩)|exact⟨Tryz.call48⟩|refine cpe gp ?_|(refine Exists.intro (k+1) ⟨by omega,by omega,?_⟩)|exact cSd|apply qd [5,22]|refine exr ?_|refine qk ?_)
   all_goals first|(rw [cd];simp [SV.evs,SV.ev,je];done)|(simp [SV.evs];omega)
  ·rw [List.take_of_length_le (by omega)]
   apply qf [];repeat' (first|apply And.intro|(intro h;try exact cDd)|exact cSd|apply qd []|refine exr ?_|refine qk ?_)
theorem q03 (b:List qq) (st:List AObj) (hl:b.length<1000000) (hf:∀ x∈b,x.fields.length<1000000):qn E 32 [jo b,jo b] st fun r st'=>r=Bv true∧st'=st:=by
 refine zt [.a (jo b),.a (jo b)] (q8 _) Tryz.func32 rfl rfl (fun _=>rfl) rfl fun S0=>?_;have hmi:(b.map je).length=b.length:=by simp
 apply qf [];repeat' (first|apply And.intro|(intro h;try exact cDd)|exact cSd|apply qd []|refine exr ?_|refine qk ?_)
 refine ke (X:=Nat) (fun k=>⟨[(0,.a (jo b)),(1,.a (jo b)),(12,.i (b.map je).length),(13,.i k)],[],0⟩) (fun k=>k≤b.length) (fun k=>b.length - k) 0 (by omega) ?_ ?_
 ·skip
  repeat' (first|apply And.intro|(intro h;try exact cDd)|exact cSd|apply qd []|refine exr ?_|refine qk ?_)
 ·rintro k hk
  by_cases i8:k<b.length
  ·obtain⟨y,hy⟩:∃ y,b[k]? = some y:=⟨_,List.getElem?_eq_getElem i8⟩
   have c8:=qir hy;have hxf:=hf y (List.mem_of_getElem? hy);have rp:=fun st=>q7r y.fields y.fields st (by omega);rw [decide_eq_true rfl] at rp;apply qf [];repeat' (first|apply And.intro|(intro h;try exact cDd)|(refine Exists.intro (k) ⟨by omega,_,c8,?_⟩)|exact⟨Tryz.call58⟩|refine cpe rp ?_|(refine Exists.intro (k+1) ⟨by omega,by omega,?_⟩)|exact cSd|apply qd []|refine exr ?_|refine qk ?_)
  ·apply qf []
   repeat' (first|apply And.intro|(intro h;try exact cDd)|exact cSd|apply qd []|refine exr ?_|refine qk ?_)
end Go.Proofs.YtapblfabkbdgcaaGreatDoor
namespace Go.Pl
open Go
def i64 (n:Int):Prop:= -9223372036854775808≤n∧n≤9223372036854775807
end Go.Pl
namespace Go.Pl
open Go Go.Proofs Go.Proofs.YtapblfabkbdgcaaGreatDoor
theorem q7x (p:qc):∀ ls:List (qc×Bool),lsum ls≤(indF p ls).length
 | []=>by simp [lsum]
 |x::r=>by
  have ih:=q7x p r;unfold lsum indF at ih ⊢;simp only [List.map_cons,List.sum_cons,List.flatMap_cons,List.length_append];omega
theorem zha (x:qq):(z0 x.fields).length≤(jm x).length:=by
 have h1:=q7x [32,32] (zj (z0 x.fields));rw [(qcr _ _ (Nat.le_refl _)).1] at h1;unfold jm xz;simp only [List.length_append];omega
def wE (es:List EntV):Nat:=(es.map fun e=>e.x.raw.length).sum
theorem qso (a b:List EntV):wE (a++b)=wE a+wE b:=by simp [wE]
theorem qtv (e:EntV) (b:List EntV):wE (e::b)=e.x.raw.length+wE b:=by simp [wE]
theorem qsp (es:List EntV) (i:Nat):wE es=wE (es.take i)+wE (es.drop i):=by rw [← qso,List.take_append_drop]
theorem q3k (es:List EntV) (i:Nat):wE (es.drop (i+1))≤wE (es.drop i):=by
 have:=qsp (es.drop i) 1;rw [List.drop_drop] at this;omega
theorem q3l:∀ es:List EntV,(jf (es.map fun e=>e.x)).length=wE es
 | []=>by simp [jf,wE]
 |e::r=>by
  have ih:=q3l r;rw [qtv,List.map_cons];unfold jf at ih ⊢;rw [List.flatMap_cons,List.length_append,ih]
theorem zfw (fs:List Fld):(xg fs).raw.length≤(z0 fs).length:=by
 unfold xg;split
 ·exact Nat.le_refl _
 ·simp
theorem zhz (l:q7) (x:qq):wE (oneF l x).2.2.ents≤wE l.ents+(z0 x.fields).length:=by
 have hp:=zfw x.fields;unfold oneF;split
 ·unfold xe
  split
  ·simp only;omega
  ·split
   ·unfold qg5
    split
    ·rename_i e he
     obtain⟨d5,_⟩:=List.getElem?_eq_some_iff.1 he;simp only;rw [List.set_eq_take_append_cons_drop,if_pos d5,qso,qtv];have h1:=qsp l.ents (atF l x.id).toNat;have h2:=q3k l.ents (atF l x.id).toNat;simp only;omega
    ·simp only;omega
   ·simp only;omega
 ·split
  ·unfold delF
   split
   ·simp only;omega
   ·unfold delL
    simp only;rw [qso];have h1:=qsp l.ents (atF l x.id).toNat;have h2:=q3k l.ents (atF l x.id).toNat;omega
  ·unfold insF
   split
   ·simp only;omega
   ·split
    ·split
     ·simp only;omega
     ·unfold insL
      simp only;rw [qso,qtv];have h1:=qsp l.ents (atF l x.id+1).toNat;simp only;omega
    ·simp only;omega
theorem qxv:∀ (b:List qq) (k:Nat) (l:q7) (ids:List Int),wE (v8 k b l ids).2.1.ents≤wE l.ents+(encF b).length
 | [],k,l,ids=>by simp [v8]
 |x::r,k,l,ids=>by
  have h1:=zhz l x;have h2:=zha x;have h3:(encF (x::r)).length=(jm x).length+(encF r).length:=by simp [encF]
  unfold v8;split
  ·have:=qxv r (k+1) (oneF l x).2.2 (if 0<(oneF l x).1 then ids++[(oneF l x).1] else ids)
   omega
  ·simp only;omega
theorem ziq (l:q7) (b:List qq):wE (doF l b).2.1.ents≤wE l.ents+(encF b).length:=by
 unfold doF;split
 ·exact qxv b 0 l []
 ·simp only;omega
theorem zbq (l:q7) (x:za):wE (wj l x).ents=wE l.ents+x.raw.length:=by
 unfold wj;split <;> simp [wE]
theorem qy6:∀ (its:List za) (l:q7),wE (its.foldl wj l).ents=wE l.ents+(jf its).length
 | [],l=>by simp [jf]
 |x::r,l=>by
  rw [List.foldl_cons,qy6 r,zbq];have:(jf (x::r)).length=x.raw.length+(jf r).length:=by simp [jf]
  omega
theorem zhi (text:qc):(jf (itsE text)).length≤2 * text.length:=by
 unfold itsE;split
 ·simp [jf]
 ·have h:=q3d text.length text 0 0 p0 (Nat.le_refl _) qwq ⟨by simp [p0,jf,ze],by simp [p0]⟩ (by omega)
  unfold jj;split
  ·simp [jf]
  ·have:=h.tot
   simp only;omega
theorem q2a:∀ (its:List za) (p:Bool),(jf (jw p its)).length≤(jf its).length+its.length
 | [],p=>by simp [jw,jf]
 |x::r,p=>by
  have ih:=q2a r (decide (x.kind≠1));unfold jf at ih ⊢;rw [jw,List.flatMap_append,List.length_append,List.flatMap_cons,List.length_append,List.length_cons];have h:((if p=true∧x.kind≠1 then [⟨1,[10],[]⟩,x] else [x]:List za).flatMap fun x=>x.raw).length≤x.raw.length+1:=by split <;> simp
  omega
theorem q7z:∀ its:List za,(∀ x∈its,x9 x)→its.length≤(jf its).length
 | [],_=>by simp
 |x::r,h=>by
  have ih:=q7z r fun y hy=>h y (by simp [hy])
  have hx:0<x.raw.length:=by
   rcases qjq (h x (by simp)) with⟨_,t,rfl,_⟩ | ⟨_,h1,_⟩
   ·simp
   ·exact List.length_pos_iff.2 h1
  unfold jf at ih ⊢;rw [List.flatMap_cons,List.length_append,List.length_cons];omega
theorem zgj {l:q7} (h:GL l):(qai l).length≤2 * wE l.ents:=by
 have h1:=q2a (z7 l) false
 have h2:=q7z (z7 l) fun x hx=>by
  obtain⟨e,he,rfl⟩:=List.mem_map.1 hx;exact (h.ok e he).1
 have h3:=q3l l.ents;unfold qai y0;unfold z7 at *;omega
end Go.Pl
namespace Go.Av
open Go Go.RowKit
section
variable {B0 : Nat} {w0 : World} {G : Gh} {st : List AObj} {w : World}
theorem zi.recell (h:zi B0 w0 G st w) {o ver:Nat} {T:TypeId} {cs cs':List AV} (ho:st[o]? = some (.cells ver T cs)) (hl:cs'.length=cs.length)
  (hr:∀ (i:Nat) (x x':AV) (v:Value),cs[i]? = some x→cs'[i]? = some x'→Rel G x v→Rel G x' v):zi B0 w0 G (st.set o (.cells ver T cs')) w:=by
 obtain⟨h0,h1,h2,h3,c,h4,h5,h6⟩:=h.ob o _ ho;refine⟨h.below,h.hB,by simp [h.n],h.pub,fun k x hx=>?_,fun k k' x x' b8 hx d7 o0 bz=>?_⟩
 ·rcases getElem?_set' _ _ _ _ _ hx with⟨rfl,rfl⟩ | ⟨b8,hx⟩
  ·refine⟨h0,h1,h2,h3,c,h4,by omega,fun i x y hx hy=>?_⟩
   have hi:i<cs.length:=by have:=lt_of_getElem? hx;omega
   exact hr i _ x y (List.getElem?_eq_getElem hi) hx (h6 i _ y (List.getElem?_eq_getElem hi) hy)
  ·exact h.ob k x hx
 ·rcases getElem?_set' _ _ _ _ _ hx with⟨e1,e2⟩ | ⟨_,e2⟩
  ·rcases getElem?_set' _ _ _ _ _ d7 with⟨e3,_⟩ | ⟨_,e4⟩
   ·exact absurd (e1.trans e3.symm) b8
   ·rw [e1];exact h.sep o k' _ x' (fun e=>b8 (e1.trans e)) ho e4 trivial bz
  ·rcases getElem?_set' _ _ _ _ _ d7 with⟨e3,_⟩ | ⟨_,e4⟩
   ·rw [e3];exact h.sep k o x _ (fun e=>b8 (e.trans e3.symm)) e2 ho o0 trivial
   ·exact h.sep k k' x x' b8 e2 e4 o0 bz
end
theorem zcx {α : Type} {A B:List α} {x x' u u' : α} {i:Nat} (h:(A++x::B)[i]? = some u) (h':(A++x'::B)[i]? = some u'):u=u'∨(u=x∧u'=x'):=by
 rcases Nat.lt_trichotomy i A.length with hi|hi|hi
 ·rw [List.getElem?_append_left hi] at h h'
  rw [h] at h';exact .inl (Option.some.inj h')
 ·subst hi
  rw [List.getElem?_append_right (Nat.le_refl _),Nat.sub_self] at h h';simp at h h';exact .inr ⟨h.symm,h'.symm⟩
 ·obtain⟨j,hj⟩:∃ j,i - A.length=j+1:=⟨i - A.length - 1,by omega⟩
  rw [List.getElem?_append_right (by omega),hj,List.getElem?_cons_succ] at h h';rw [h] at h';exact .inl (Option.some.inj h')
theorem qq7 (ρ : Nat→AV) (a b:List SV):SV.evs ρ (a++b)=SV.evs ρ a++SV.evs ρ b:=by simp [kh]
theorem za6 {xs:List AV} (h:∀ x∈xs,x.one=true):flat xs=xs:=by
 unfold flat
 induction xs with
 |nil=>rfl
 |cons a r ih=>rw [List.flatMap_cons,ih fun x hx=>h x (by simp [hx]),qi3 (h a (by simp))];rfl
theorem zcq {E:Env} {rd:Option Nat} {N:Nat} {B:Bs} {c:Code} {Q:Exit→Conf→Prop} {C:Conf} {b r sz:Nat} {T T2:TypeId} {zs:List AV} {ys:List AV} (hb:hpF C.hp b=some (.rows T zs [.tp r])) (hr:hpF C.hp r=some (.own sz T2 ys)) (hy:ys≠[])
  (h:Sm E rd N B c Q ⟨C.sl,(b,some (.rows T (zs++[.sl sz ys none]) []))::(r,none)::C.hp,C.nx⟩):Sm E rd N B c Q C:=⟨fun s hs=>by
 obtain⟨t,S,df⟩:=s;obtain⟨ρ,hF,hR⟩:=hs;simp only at hF hR;have hbr:b≠r:=fun e=>by subst e;rw [hb] at hr;simp at hr
 rcases hR.hp.ok r _ hr with⟨e,_⟩ | ⟨o,ver,cap,pad,f1,f2,f3,f4,f5,f6⟩
 ·exact absurd e hy
 rcases hR.hp.ok b _ hb with⟨e,_⟩ | ⟨o2,ver2,cap2,pad2,g1,g2,g3,g4,g5,g6⟩
 ·simp [SV.evs] at e
 have htr:tpAt (ρ r) = ρ r:=by rw [f1];rfl
 have dj:zs++SV.evs ρ [.tp r]=zs++[ρ r]:=by simp [SV.evs,SV.ev,htr]
 have hev2:(zs++[.sl sz ys none])++SV.evs ρ []=zs++[.sl sz ys none]:=by simp [SV.evs]
 rw [dj] at g1 g2 g3 g4 g5;have hfa:flat (zs++[ρ r])++pad2=flat (zs) ++ ρ r::pad2:=by rw [wc,f1];simp [flat,AV.cells]
 have hfb:flat (zs++[.sl sz ys none])++pad2=flat (zs) ++ .sl sz ys none::pad2:=by rw [wc];simp [flat,AV.cells]
 have hoo:o≠o2:=fun e=>hR.hp.sep r b _ _ (fun e=>hbr e.symm) hr hb o (by rw [f1];rfl) (by rw [g1,e];rfl)
 have c8:∀ k x,hpF ((b,some (.rows T (zs++[.sl sz ys none]) []))::(r,none)::C.hp) k=some x→(k=b∧x = .rows T (zs++[.sl sz ys none]) [])∨(k≠b∧k≠r∧hpF C.hp k=some x):=fun k x hk=>by
  unfold hpF at hk ⊢;simp only [lkS] at hk;by_cases e:b=k
  ·subst e
   simp at hk;exact .inl ⟨rfl,hk.symm⟩
  ·rw [ja e] at hk
   by_cases e2:r=k
   ·subst e2;simp at hk
   ·rw [ja e2] at hk
    exact .inr ⟨fun h=>e h.symm,fun h=>e2 h.symm,hk⟩
 have r8:∀ k x,k≠b→k≠r→hpF C.hp k=some x→∀ j,zk (ρ k)=some j→o≠j∧o2≠j:=fun k x h1 h2 hk j hj=>
  ⟨fun e=>hR.hp.sep k r _ _ h2 hk hr j hj (by rw [f1,← e];rfl),fun e=>hR.hp.sep k b _ _ h1 hk hb j hj (by rw [g1,← e];rfl)⟩
 have r6:∀ j,o≠j→o2≠j→((S.set o .dead).set o2 (.cells ver2 T (flat (zs++[.sl sz ys none])++pad2)))[j]? = S[j]?:=fun j h1 h2=>by rw [List.getElem?_set_ne h2,List.getElem?_set_ne h1]
 have g2':(S.set o .dead)[o2]? = some (.cells ver2 T (flat (zs++[ρ r])++pad2)):=(List.getElem?_set_ne hoo).trans g2
 have hP:SatR B.S0 B.F ⟨C.sl,(b,some (.rows T (zs++[.sl sz ys none]) []))::(r,none)::C.hp,C.nx⟩ ρ t ((S.set o .dead).set o2 (.cells ver2 T (flat (zs++[.sl sz ys none])++pad2))):=by
  refine⟨hR.sl,⟨fun k x hk=>?_,fun k k' x x' b8 hk l8=>?_⟩,fun k x hk j hj=>?_,fun j hj hFj=>?_,by simpa using hR.len,hR.wsl,fun k x hk=>?_⟩
  ·rcases c8 k x hk with⟨rfl,rfl⟩ | ⟨n1,n2,hk⟩
   ·show OwnS _ 1 T ((zs++[.sl sz ys none])++SV.evs ρ []) (ρ k)
    rw [hev2];refine .inr ⟨o2,ver2,cap2,pad2,by rw [g1];simp,ym g2',?_,fun y hy=>?_,by simpa using g5,g6⟩
    ·rw [hfb]
     rw [hfa] at g3
     simpa using g3
    ·rcases List.mem_append.1 hy with h|h
     ·exact g4 y (by simp [h])
     ·simp only [List.mem_singleton] at h
      subst h;rfl
   ·refine SR.ok_of (f:=fun _=>true) (SR.all_mono (fun _ _=>rfl) x (hR.whp k x hk).2) (fun _ _=>rfl) (hR.hp.ok k x hk) fun j hj=>?_
    obtain⟨q1,q2⟩:=r8 k x n1 n2 hk j hj;exact r6 j q1 q2
  ·rcases c8 k x hk with⟨rfl,rfl⟩ | ⟨n1,n2,q1⟩
   ·rcases c8 k' x' l8 with⟨rfl,rfl⟩ | ⟨m1,m2,q2⟩
    ·exact absurd rfl b8
    ·exact hR.hp.sep _ _ _ _ b8 hb q2
   ·rcases c8 k' x' l8 with⟨rfl,rfl⟩ | ⟨m1,m2,q2⟩
    ·exact hR.hp.sep _ _ _ _ b8 q1 hb
    ·exact hR.hp.sep _ _ _ _ b8 q1 q2
  ·rcases c8 k x hk with⟨rfl,rfl⟩ | ⟨n1,n2,hk⟩
   ·exact hR.own _ _ hb j hj
   ·exact hR.own _ _ hk j hj
  ·refine (r6 j (fun e=>?_) (fun e=>?_)).trans (hR.low j hj hFj)
   ·rcases hR.own r _ hr o (by rw [f1];rfl) with q|q
    ·omega
    ·exact hFj (e▸q)
   ·rcases hR.own b _ hb o2 (by rw [g1];rfl) with q|q
    ·omega
    ·exact hFj (e▸q)
  ·rcases c8 k x hk with⟨rfl,rfl⟩ | ⟨n1,n2,hk⟩
   ·exact⟨(hR.whp _ _ hb).1,rfl⟩
   ·exact hR.whp k x hk
 have hr2:=h.run ⟨t,(S.set o .dead).set o2 (.cells ver2 T (flat (zs++[.sl sz ys none])++pad2)),df⟩ ⟨ρ,⟨fun x hx=>?_,hF.nd,hF.rig,hF.le,hF.dz⟩,hP⟩
 ·exact⟨fun B0 w0 G a w hL hI=>by
   obtain⟨vs,c9,hA,hv,hp,bz,cx⟩:=hI.agree.pubOb f2
   have bf:=hA.recell (cs':=flat (zs++[.sl sz ys none])++pad2) g2' (by rw [hfa,hfb];simp) fun i x x' v hx d7 hv2=>by
    rw [hfa] at hx;rw [hfb] at d7;rcases zcx hx d7 with rfl | ⟨rfl,rfl⟩
    ·exact hv2
    ·rw [f1] at hv2
     cases hv2 with
     |os _ _ _ _ bl _ hn r7 fb=>
      have fb:=fb hv;subst fb;exact .sl sz ys none _ 0 (cap+1) vs hp f4 (by rw [← bz];simp) (fun k x y g1 g2=>cx k x y (by rw [List.getElem?_append_left (lt_of_getElem? g1)];exact g1) (by simpa using g2)) (fun t ht=>by simp at ht) f5
   exact wpIn_mono (hr2.run B0 w0 _ a w hL (hI.restate c9 bf)) fun _ _ _ ⟨G',s',hG,k1,k2⟩=>⟨G',s',c9.trans hG,k1,k2⟩⟩
 ·have hm:=hF.dm x hx
  refine⟨?_,hm.2⟩;simp only;refine (r6 x (fun e=>?_) (fun e=>?_)).trans hm.1
  ·rw [← e] at hm
   rw [f2] at hm;simp at hm
  ·rw [← e] at hm
   rw [g2] at hm
   simp at hm⟩
theorem q1u {E:Env} {rd:Option Nat} {N:Nat} {B:Bs} {c:Code} {Q:Exit→Conf→Prop} {C:Conf} {b:Nat} {T:TypeId} {xs:List AV} (hb:hpF C.hp b=some (.rows T xs []))
  (h:Sm E rd N B c Q ⟨C.sl,(b,some (.own 1 T xs))::C.hp,C.nx⟩):Sm E rd N B c Q C:=⟨fun s hs=>by
 obtain⟨ρ,hF,hR⟩:=hs
 have c8:∀ k x,hpF ((b,some (.own 1 T xs))::C.hp) k=some x→(k=b∧x = .own 1 T xs)∨(k≠b∧hpF C.hp k=some x):=fun k x hk=>by
  unfold hpF at hk ⊢;simp only [lkS] at hk;by_cases e:b=k
  ·subst e
   simp at hk;exact .inl ⟨rfl,hk.symm⟩
  ·rw [ja e] at hk
   exact .inr ⟨fun h=>e h.symm,hk⟩
 have dj:∀ ρ,xs++SV.evs ρ []=xs:=fun ρ=>by simp [SV.evs]
 refine h.run s ⟨ρ,⟨hF.dm,hF.nd,hF.rig,hF.le,hF.dz⟩,⟨hR.sl,⟨fun k x hk=>?_,fun k k' x x' b8 hk l8=>?_⟩,fun k x hk j hj=>?_,hR.low,hR.len,hR.wsl,fun k x hk=>?_⟩⟩
 ·rcases c8 k x hk with⟨rfl,rfl⟩ | ⟨n1,hk⟩
  ·have:OwnS s.st 1 T (xs++SV.evs ρ []) (ρ k):=hR.hp.ok k _ hb
   rw [dj] at this;exact this
  ·exact hR.hp.ok k x hk
 ·rcases c8 k x hk with⟨rfl,rfl⟩ | ⟨n1,q1⟩
  ·rcases c8 k' x' l8 with⟨rfl,rfl⟩ | ⟨m1,q2⟩
   ·exact absurd rfl b8
   ·exact hR.hp.sep _ _ _ _ b8 hb q2
  ·rcases c8 k' x' l8 with⟨rfl,rfl⟩ | ⟨m1,q2⟩
   ·exact hR.hp.sep _ _ _ _ b8 q1 hb
   ·exact hR.hp.sep _ _ _ _ b8 q1 q2
 ·rcases c8 k x hk with⟨rfl,rfl⟩ | ⟨n1,hk⟩
  ·exact hR.own _ _ hb j hj
  ·exact hR.own _ _ hk j hj
 ·rcases c8 k x hk with⟨rfl,rfl⟩ | ⟨n1,hk⟩
  ·exact⟨(hR.whp _ _ hb).1,rfl⟩
  ·exact hR.whp k x hk⟩
section
variable {E : Env} {rd : Option Nat} {N : Nat} {ops : Array Oper} {K : AS → Prop} {s : AS} {rest : List Oper} {d : Option Tmp} {T : TypeId} {p : String} {af : Array Edge}
theorem qvx {x y:Operand} {t u T':TypeId} {sz bytes o:Nat} {xs ys:List AV} {a b:AV} {ob:AObj} (hx:qi N s x=a) (hy:qi N s y=b) (i7:SrcA s.st sz b ys.length ys.length (flat ys)) (gr:∀ y∈ys,y.cells.length=sz) (hV:Vec sz T' o xs a ob) (ho:s.st[o]? = some ob)
  (ht:E.P.underlying t=some (.slice T')) (hu:E.P.underlying u=some (.slice T')) (hT:wx E.P T' sz bytes) (l7:xs.length+ys.length≤maxLen) (hb:(xs.length+ys.length) * bytes≤140737488355328)
  (h:∀ a' ob',Vec sz T' o (xs++ys) a' ob'→AOps E rd N ops rest K (AS.put ⟨s.t,s.st.set o ob',s.df⟩ d a')):AOps E rd N ops (⟨d,.call ⟨.builtin .append,#[x,y],#[t,u]⟩,T,p,af,none⟩::rest) K s:=by
 refine qz rfl (qx nofun fun B0 w0 G a0 w _ hI=>?_);obtain⟨news,h1,h2,h3⟩:=qn3 (P:=E.P) hI.agree i7 (hI.eval_of hy);obtain⟨v',w',G',a',ob',e1,e2,e3,e4,e5⟩:=qgd (ty:=T) hI.agree ht hu (.inr ⟨_,rfl⟩) hT hV ho (hI.eval_of hx) ⟨h1.len,h1.cells,h1.count,h1.one⟩ gr h3 l7 hb;refine⟨v',w',G',_,_,?_,e2,e3,e4,h a' ob' e5⟩;generalize a0.eval = ρ at e1;simp [execOp,resolve,invoke,builtin,e1]
theorem qvw {x y:Operand} {t u T':TypeId} {sz bytes:Nat} {ys:List AV} {b:AV} (hx:∀ (G:Gh) (v:Value),Rel G (qi N s x) v→∃ base,v = .slice base 0 0) (hy:qi N s y=b) (i7:SrcA s.st sz b ys.length ys.length (flat ys)) (gr:∀ y∈ys,y.cells.length=sz)
  (ht:E.P.underlying t=some (.slice T')) (hu:E.P.underlying u=some (.slice T')) (hT:wx E.P T' sz bytes) (h0:ys≠[]) (l7:ys.length≤maxLen) (hb:ys.length * bytes≤140737488355328)
  (h:∀ cap pad,(flat ys++pad).length=(cap+1) * sz→ys.length≤cap+1→cap+1≤maxLen→AOps E rd N ops rest K (AS.put ⟨s.t,s.st++[.cells 0 T' (flat ys++pad)],s.df⟩ d (.os s.st.length 0 0 ys.length (cap+1)))):AOps E rd N ops (⟨d,.call ⟨.builtin .append,#[x,y],#[t,u]⟩,T,p,af,none⟩::rest) K s:=by
 refine qz rfl (qx nofun fun B0 w0 G a0 w _ hI=>?_);obtain⟨i,z,hi,hz,rfl,rfl,cg⟩:=hT.ex;obtain⟨news,hS,h2,h3⟩:=qn3 (P:=E.P) hI.agree i7 (hI.eval_of hy);have h1:Src E.P w (a0.eval y) ys.length i.size news:=⟨hS.len,hS.cells,hS.count,hS.one⟩;obtain⟨base,hv⟩:=hx _ _ (hI.eval x);have b9:0<ys.length:=List.length_pos_iff.2 h0
 have d8:(Builtin.firstCells i.size 0 (.slice base 0 0)).run E.P w.drew = .ok ([]:List Value).toArray w.drew:=by
  cases base with
  |none=>simp [run_firstCells_none]
  |some a=>exact run_firstCells_some w.drew i.size 0 a 0 0 [] (by simp) (by simp)
 have a8:=qcx (ty:=T) ht hu (.inr ⟨_,rfl⟩) hi hz h1 base 0 0 [] d8 (by omega) (by simp only [maxLen] at l7;omega) (by simp only [Nat.zero_add];rw [nextslicecap_zero (by omega)];omega);simp only [Nat.zero_add] at a8;have ck:=grownCap_ge w ys.length 0 T';have c9:=grownCap_le_maxLen w ys.length 0 T' l7;generalize grownCap w ys.length 0 T'=cap at a8 ck c9;obtain⟨cap,rfl⟩:∃ c,cap=c+1:=⟨cap - 1,by omega⟩;generalize hzc:Builtin.zeroCells z.cells (cap+1 - ys.length)=zc at a8;have ft:zc.size=(cap+1 - ys.length) * i.size:=by rw [← hzc,size_zeroCells,cg]
 have gx:(flat ys).length=ys.length * i.size:=zq gr;have m5:Below w.heap.size w w.drew:=⟨rfl,rfl,rfl,Nat.le_refl _,fun _ _=>rfl⟩
 have hr:=yg (G:=G) (cs:=flat ys) (ds:=zc.toList.map AV.v) (vs:=news) (us:=zc.toList) (by rw [gx,h1.count]) h3 (fun j a b h1 h2=>by
  rw [List.getElem?_map,h2] at h1;simp at h1;subst h1
  exact .v _)
 have hA:=(hI.agree.fresh m5).newCells T' (([]:List Value).toArray++news.toArray++zc) (flat ys++zc.toList.map AV.v) (by simp [gx,h1.count]) (fun j a b q1 q2=>hr j a b q1 (by rw [← q2];simp [← Array.getElem?_toList]));have hn:=hI.agree.n;refine⟨_,_,_,_,_,?_,G.le_new _ _ _ _,hA,.os _ _ _ _ _ _ (by simp [Gh.new,hn]) (Nat.zero_le _) (fun _=>by simp [Gh.new,hn];rfl),h cap (zc.toList.map AV.v) ?_ ck c9⟩
 ·generalize a0.eval = ρ at a8 hv ⊢
  simp [execOp,resolve,invoke,builtin,hv,a8]
 ·have h1:zc.toList.length=(cap+1 - ys.length) * i.size:=by rw [← ft];simp
  rw [List.length_append,gx,List.length_map,h1,← Nat.add_mul];congr 1;omega
end
section
variable {E : Env} {N : Nat} {ops : Array Oper} {nx : Nat} {sl : List (Nat × SV)} {H : Nat → Option SR} {k : Ef → Prop} {d : Option Tmp} {T : TypeId} {p : String} {af : Array Edge}
theorem q5q {t e:TypeId} {parts:Array (Nat×Operand)} {v:SV} {agg:Bool} {zs:List AV} (hp:qll N sl parts.toList=some [(0,v)]) (hv:(v.one && v.okc && v.all (fun k=> !Nat.beq k nx))=true) (he:elT (E.P.underlying t)=some e) (ht:tyOf E.P e=some (1,agg)) (hz:qdn E.P e 1=some zs) (ft:zs.length=1)
  (h:k ⟨.tp nx,[],[(nx,some (.rows e [] [v]))],nx+1⟩):∃ e,Loc E N ops ⟨d,.buildSlice t 1 parts,T,p,af,none⟩ nx sl H e∧k e:=by
 simp only [Bool.and_eq_true] at hv;refine⟨_,qhf (fun k r hk=>by rw [qcw] at hk;simp at hk) fun df rd K rest ρ t' S hs _ hk=>?_,h⟩;have h1:=qtl ρ v hv.1.1;have hc:=qi3 h1;have hpa:ve N ⟨t',S,df⟩ parts=jb 0 [v.ev ρ]:=by unfold ve;exact qfh hs hp
 have ct:=qkt (sz:=1) [v.ev ρ] 0 [] zs (fun y hy=>by
  simp only [List.mem_singleton] at hy;subst hy
  exact⟨qr0 ρ v hv.1.2,by rw [hc];rfl⟩) (by simp) (by simpa using ft)
 have g8:flat [v.ev ρ]=[v.ev ρ]:=by simp [flat,hc]
 rw [g8] at ct;refine ya (loc:=[]) (st:=S) (by simp) (wr he) ht hz (by rw [hpa];simpa using ct) (by decide) ?_
 have dj:∀ c,SV.evs (upd ρ nx c) [v]=[v.ev ρ]:=fun c=>by
  simp only [SV.evs];rw [qbb (f:=fun k=> !Nat.beq k nx) (ρ:= ρ) (ρ':=upd ρ nx c) (fun k hk=>wz _ _ (fun e=>by subst e;simp at hk)) v hv.2]
 have:=hk (.os S.length 0 0 1 1) [.cells 0 e [v.ev ρ]]
  (by
   show OwnS _ 1 e (SV.evs (upd ρ nx (.os S.length 0 0 1 1)) [v]) _
   rw [dj];refine .inr ⟨S.length,0,0,[],rfl,by rw [g8];exact wd,by rw [g8];rfl,fun x hx=>?_,by simp,by simp [maxLen]⟩;simp only [List.mem_singleton] at hx;subst hx
   rw [hc];rfl)
  (fun o ho=>by simp only [zk,Option.some.injEq] at ho;omega)
 simpa [SV.ev,jr,tpAt,AV.one] using this
theorem q7q (ρ : Nat→AV) (zs:List AV) (cs:List SV):SV.evs ρ (zs.map SV.a++cs)=zs++SV.evs ρ cs:=by
 rw [qq7,kh,List.map_map];congr 1
 conv=>rhs;rw [← List.map_id zs]
 exact List.map_congr_left fun x _=>rfl
theorem qja {t e e':TypeId} {x y:Operand} {b i:Nat} {agg:Bool} {zs:List AV} {cs:List SV} {kd:IntKind} {v:SV} (hx:sval N sl x=some (.tp b)) (hH:H b=some (.rows e zs cs)) (hy:sval N sl y=some v) (hv:qaf v=some (kd,(i:Int))) (he:elT (E.P.underlying t)=some e') (ht:tyOf E.P e'=some (1,agg)) (hi:i<zs.length+cs.length)
  (h:k ⟨.bx b (0+i * 1),[b],[],nx⟩):∃ e,Loc E N ops ⟨d,.indexAddr t x y,T,p,af,none⟩ nx sl H e∧k e:=by
 refine⟨_,xl (v:=.bx b (0+i * 1)) fun df rd K rest ρ t' S hs hS hk=>?_,h⟩;have b9:(zs++SV.evs ρ cs).length=zs.length+cs.length:=by rw [List.length_append,kh,List.length_map]
 rcases hS.ok b _ ((wu b).trans hH) with⟨e0,_⟩ | ⟨o,ver,cap,pad,e1,e2,_⟩
 ·rw [e0] at b9
  simp at b9;omega
 ·refine qgk (o:=o) (ver:=ver) (off:=0) (len:=(zs++SV.evs ρ cs).length) (cp:=cap+1) ((qv hs hx).trans (by simp [SV.ev,e1,tpAt,AV.one])) ((qv hs hy).trans (xk hv ρ)) (wr he) ht rfl (by omega) ?_
  simpa only [SV.ev,e1,bxAt] using hk
theorem qjb {t e:TypeId} {x:Operand} {b off i:Nat} {zs:List AV} {cs:List SV} {v:SV} (hx:sval N sl x=some (.bx b off)) (hH:H b=some (.rows e zs cs)) (ht:tyOf E.P t=some (1,false)) (ho:off=0+i * 1+0) (hz:(zs.map SV.a++cs)[i]? = some v) (d9:v.one=true)
  (h:k ⟨v,[b],[],nx⟩):∃ e,Loc E N ops ⟨d,.load t x,T,p,af,none⟩ nx sl H e∧k e:=by
 refine⟨_,xl (v:=v) fun df rd K rest ρ t' S hs hS hk=>?_,h⟩;have hz2:(zs++SV.evs ρ cs)[i]? = some (v.ev ρ):=by rw [← q7q,kh,List.getElem?_map,hz];rfl
 rcases hS.ok b _ ((wu b).trans hH) with⟨e0,_⟩ | ⟨o,ver,cap,pad,e1,e2,e3,e4,_⟩
 ·rw [e0] at hz2
  simp at hz2
 ·subst ho
  refine ka (o:=o) (ver:=ver) (off:=0+i * 1+0) ((qv hs hx).trans (by simp only [SV.ev,e1,bxAt])) e2 ht (quv (sz:=1) e4 hz2 (by rw [qi3 (qtl ρ v d9)];rfl) (by omega) fun _=>by omega) hk
theorem q1t {x y:Operand} {t u e:TypeId} {b c bytes:Nat} {zs:List AV} {cs ds:List SV} (hx:sval N sl x=some (.tp b)) (hH:H b=some (.rows e zs cs)) (hy:sval N sl y=some (.tp c)) (hK:H c=some (.rows e [] ds)) (rf:(!Nat.beq b c && !Nat.beq b nx && !Nat.beq c nx && SV.alls (fun k=> !Nat.beq k nx) (cs++ds) && ones ds)=true) (hd:ds≠[])
  (ht:elT (E.P.underlying t)=some e) (hu:elT (E.P.underlying u)=some e) (hb:qq3 E.P e=some (1,bytes)) (hn:(Nat.blt 0 bytes && Nat.ble bytes 140737)=true) (h1:zs.length+cs.length+ds.length≤1000000000)
  (h:k ⟨.tp nx,[b,c],[(b,none),(c,none),(nx,some (.rows e zs (cs++ds)))],nx+1⟩):∃ e,Loc E N ops ⟨d,.call ⟨.builtin .append,#[x,y],#[t,u]⟩,T,p,af,none⟩ nx sl H e∧k e:=by
 simp only [Bool.and_eq_true] at rf hn;obtain⟨⟨⟨⟨b1,b2⟩,b3⟩,b4⟩,b5⟩:=rf;have nbc:b≠c:=fun e=>by subst e;simp at b1
 have nbn:b≠nx:=fun e=>by subst e;simp at b2
 have ncn:c≠nx:=fun e=>by subst e;simp at b3
 have fb:=Nat.le_of_ble_eq_true hn.2;refine⟨_,fun df rd K rest ρ t' S hs hS hk=>?_,h⟩;have rb:resF [b,c] H b=some (.rows e zs cs):=by unfold resF;simp [memN,hH]
 have rc:resF [b,c] H c=some (.rows e [] ds):=by unfold resF;simp [memN,hK]
 have rz:(zs++SV.evs ρ cs).length=zs.length+cs.length:=by rw [List.length_append,kh,List.length_map]
 have hld:(SV.evs ρ ds).length=ds.length:=by rw [kh,List.length_map]
 have hnil:([]:List AV)++SV.evs ρ ds=SV.evs ρ ds:=rfl;have hds:SV.evs ρ ds≠[]:=fun e=>by rw [e] at hld;exact hd (List.eq_nil_of_length_eq_zero (by simpa using hld.symm))
 have dn:((zs++SV.evs ρ cs).length+(SV.evs ρ ds).length) * bytes≤140737488355328:=by
  rw [rz,hld];exact Nat.le_trans (Nat.mul_le_mul h1 fb) (by decide)
 have d9:=qte ρ ds b5;have hfd:flat (SV.evs ρ ds)=SV.evs ρ ds:=za6 d9;rcases hS.ok c _ rc with⟨e0,_⟩ | ⟨o2,ver2,cap2,pad2,g1,g2,g3,g4,g5,g6⟩
 ·exact absurd e0 hds
 rw [hnil] at g1 g2 g3 g4 g5;have s7:qi N ⟨t',S,df⟩ y = .os o2 ver2 0 (SV.evs ρ ds).length (cap2+1):=(qv hs hy).trans (by simp [SV.ev,g1,tpAt,AV.one])
 have i7:SrcA S 1 (.os o2 ver2 0 (SV.evs ρ ds).length (cap2+1)) (SV.evs ρ ds).length (SV.evs ρ ds).length (flat (SV.evs ρ ds)):=by
  have ht0:((flat (SV.evs ρ ds)++pad2).drop (0 * 1)).take ((SV.evs ρ ds).length * 1)=flat (SV.evs ρ ds):=by
   rw [Nat.zero_mul,List.drop_zero,Nat.mul_one,hfd,List.take_left]
  have:=SrcA.os (st:=S) (sz:=1) o2 ver2 0 (SV.evs ρ ds).length (cap2+1) (SV.evs ρ ds).length e _ g2 (by rw [List.length_append,hfd];omega) (by
   rw [ht0,hfd]
   exact List.all_eq_true.2 d9)
  rw [ht0] at this;exact this
 have hok:=hS.ok b _ rb;have dj:qi N ⟨t',S,df⟩ x = ρ b:=(qv hs hx).trans (qdy hok)
 have key:∀ k q,chF [(b,none),(c,none),(nx,some (SR.rows e zs (cs++ds)))] (resF [b,c] H) k=some q→k=nx∧q = .rows e zs (cs++ds):=fun k q hk=>by
  simp only [chF,lkS] at hk;by_cases e1:b=k
  ·subst e1;simp at hk
  ·rw [ja e1] at hk
   simp only [cond_false] at hk;by_cases e2:c=k
   ·subst e2;simp at hk
   ·rw [ja e2] at hk
    simp only [cond_false] at hk;by_cases e3:nx=k
    ·subst e3
     simp at hk;exact⟨rfl,hk.symm⟩
    ·rw [ja e3] at hk
     simp only [cond_false] at hk;have:=(vn hk).1;simp only [memN,List.any_cons,List.any_nil,Bool.or_false,Bool.or_eq_true] at this;rcases this with h|h
     ·exact absurd (Nat.eq_of_beq_eq_true h).symm e1
     ·exact absurd (Nat.eq_of_beq_eq_true h).symm e2
 have fin:∀ (a:AV) (S':List AObj),OwnS S' 1 e ((zs++SV.evs ρ cs)++SV.evs ρ ds) a→S.length≤S'.length→(∀ j,j<S.length→zk (ρ b)≠some j→S'[j]? = S[j]?)→(∀ o,zk a=some o→S.length≤o∨zk (ρ b)=some o)→AOps E rd N ops rest K (AS.put ⟨t',S',df⟩ d a):=fun a S' q1 q2 q3 q4=>by
  have hev2:zs++SV.evs (upd ρ nx a) (cs++ds)=(zs++SV.evs ρ cs)++SV.evs ρ ds:=by
   rw [yl (f:=fun k=> !Nat.beq k nx) (ρ:= ρ) (fun k hk=>wz _ _ (fun e=>by subst e;simp at hk)) _ b4,qq7,List.append_assoc]
  have:=hk (upd ρ nx a) S' ⟨fun k hk=>wz _ _ (by simp only at hk;omega),⟨fun k r hk=>?_,fun k k' r r' b8 z1 z2=>absurd ((key k r z1).1.trans (key k' r' z2).1.symm) b8⟩,q2,fun j hj b8=>q3 j hj (b8 b _ rb),fun k r hk o ho=>?_⟩
  ·simpa only [SV.ev,jr,qdy q1] using this
  ·obtain⟨rfl,rfl⟩:=key k r hk
   rw [jr]
   show OwnS S' 1 e (zs++SV.evs (upd ρ k a) (cs++ds)) a
   rw [hev2];exact q1
  ·obtain⟨rfl,rfl⟩:=key k r hk
   rw [jr] at ho;exact (q4 o ho).imp_right fun h=>⟨b,_,rb,h⟩
 rcases hok with⟨e0,e1⟩ | ⟨o,ver,cap,pad,e1,e2,e3,e4,e5,e6⟩
 ·refine qvw (by rw [dj];exact e1.val) s7 i7 g4 (wr ht) (wr hu) (qe7 hb) hds (by simp only [maxLen];omega) (by rw [e0] at dn;simpa using dn) fun cap pad z1 z2 z3=>?_
  refine fin _ _ (.inr ⟨S.length,0,cap,pad,by rw [e0];rfl,?_,?_,?_,?_,z3⟩) (by simp) (fun j hj _=>List.getElem?_append_left hj) fun o ho=>.inl (by simp only [zk,Option.some.injEq] at ho;omega)
  ·rw [e0,List.nil_append];exact wd
  ·rw [e0,List.nil_append];exact z1
  ·rw [e0,List.nil_append];exact g4
  ·rw [e0,List.nil_append];exact z2
 ·refine qvx (o:=o) (dj.trans e1) s7 i7 g4 (.os ver (cap+1) pad e3 e4 e5 e6) e2 (wr ht) (wr hu) (qe7 hb) (by simp only [maxLen];omega) dn fun a' ob' hV=>?_
  rcases qsn hV with⟨q,_,_⟩ | ⟨ver',cap',pad',rfl,rfl,q1,q2,q3,q4⟩
  ·simp [hds] at q
  ·obtain⟨cap',rfl⟩:∃ c,cap'=c+1:=⟨cap' - 1,by
    have:0<(SV.evs ρ ds).length:=List.length_pos_iff.2 hds;simp at q3
    omega⟩
   refine fin _ _ (.inr ⟨o,ver',cap',pad',rfl,ym e2,q1,q2,q3,q4⟩) (by simp) (fun j hj b8=>List.getElem?_set_ne fun e=>b8 (by rw [e1,e];rfl)) fun o' d6=>.inr (by rw [e1];exact d6)
end
end Go.Av
namespace Go.Av
open Go Go.RowKit
section
variable {E : Env} {N : Nat} {ops : Array Oper} {nx : Nat} {sl : List (Nat × SV)} {H : Nat → Option SR} {k : Ef → Prop} {d : Option Tmp} {T : TypeId} {p : String} {af : Array Edge}
theorem zfg {ts:Array TypeId} {x y z:Operand} {u v w:SV} {a b c:Int} (hx:sval N sl x=some u) (hy:sval N sl y=some v) (hz:sval N sl z=some w) (ia:qaf u=some (.i64,a)) (ib:qaf v=some (.i64,b)) (ic:qaf w=some (.i64,c))
  (h:k (vq nx (.i (min (min a b) c)))):∃ e,Loc E N ops ⟨d,.call ⟨.builtin .min,#[x,y,z],ts⟩,T,p,af,none⟩ nx sl H e∧k e:=by
 refine⟨_,z4 (v:=.i (min (min a b) c)) fun df rd K rest ρ t' S hs hk=>zy (.int .i64 (min (min a b) c)) rfl nofun (fun a' w' he=>by
  have e1:=he _ _ ((qv hs hx).trans (xk ia ρ));have e2:=he _ _ ((qv hs hy).trans (xk ib ρ));have e3:=he _ _ ((qv hs hz).trans (xk ic ρ));by_cases h1:b<a
  ·have e4:min a b=b:=by omega
   by_cases h2:c<b
   ·have e5:min (min a b) c=c:=by omega
    rw [e5];simp [execOp,resolve,invoke,builtin,Builtin.min_,Builtin.min2,e1,e2,e3,h1,h2]
   ·have e5:min (min a b) c=b:=by omega
    rw [e5];simp [execOp,resolve,invoke,builtin,Builtin.min_,Builtin.min2,e1,e2,e3,h1,h2]
  ·have e4:min a b=a:=by omega
   by_cases h2:c<a
   ·have e5:min (min a b) c=c:=by omega
    rw [e5];simp [execOp,resolve,invoke,builtin,Builtin.min_,Builtin.min2,e1,e2,e3,h1,h2]
   ·have e5:min (min a b) c=a:=by omega
    rw [e5]
    simp [execOp,resolve,invoke,builtin,Builtin.min_,Builtin.min2,e1,e2,e3,h1,h2]) hk,h⟩
end
end Go.Av
namespace Go.Av
open Go Go.RowKit
theorem ix64 {n m:Int} (h:n=m):qaf (.i n)=some (IntKind.i64,m):=by rw [h];rfl
def q5r (H:Nat→Option SR):List (Nat×Option SR)→Prop
 | []=>True
 |(k,r)::l=>H k=r∧q5r H l
theorem qvl {H:Nat→Option SR}:∀ {hp:List (Nat×Option SR)},q5r H hp→resF (j5 hp) H=hpF hp
 | [],_=>by funext k;simp [resF,j5,memN,hpF,lkS]
 |(i,r)::l,h=>by
  have ih:=congrFun (qvl h.2);funext k;have:=ih k;unfold resF memN j5 hpF at this ⊢;simp only [List.map_cons,List.any_cons,lkS];by_cases e:i=k
  ·subst e
   simp [h.1]
  ·rw [ja e,ja fun h=>e h.symm,Bool.false_or,cond_false]
   exact this
theorem zd5 {E:Env} {f:FuncId} {vs:List SV} {i9:List (Nat×Option SR)} {nx0 nx:Nat} {v:SV} {H:Nat→Option SR} (h:ki E f vs nx0 (hpF i9) ⟨v,j5 i9,i9++vd i9,nx0⟩) (hs:q5r H i9) :
  ki E f vs nx H ⟨v,j5 i9,[],nx⟩:=fun ρ S hS=>by
 have hr:=qvl hs;simp only [hr] at hS;refine (h ρ S (by simpa only [vz] using hS)).mono ?_;rintro r S' ⟨ρ',rfl,hp⟩;have e : ρ' = ρ:=funext fun k=>hp.old k (by simp only;omega);subst e;refine⟨ρ',rfl,fun _ _=>rfl,?_,hp.len,fun j hj hn=>?_,fun k r hk o ho=>?_⟩
 ·have:=hp.sat
  simp only [vz,qd5] at this;have e2:chF [] (resF (j5 i9) H)=hpF i9:=by rw [hr];rfl
  simp only [e2];exact this
 ·refine hp.fr j hj fun k r hk=>?_
  simp only [vz] at hk;exact hn k r (by simp only [hr];exact hk)
 ·have e2:chF [] (resF (j5 i9) H)=hpF i9:=by rw [hr];rfl
  simp only [e2] at hk;exact .inr ⟨k,r,by simp only [hr];exact hk,ho⟩
structure LocK (E:Env) (N:Nat) (l:List Oper) (o:Oper) (nx:Nat) (sl:List (Nat×SV)) (H:Nat→Option SR) (k:Ef→Prop):Prop where
 ex:∃ e,Loc E N l.toArray o nx sl H e∧k e
def q58 (E:Env) (N:Nat) (l:List Oper):Nat→List Oper→List Tr→(List Tr→Conf→Prop)→Conf→Prop
 | _,[],tr,K,C=>K tr C
 |i,o::r,tr,K,⟨sl,hp,nx⟩=>LocK E N l o nx (rs (rdOf l o) sl) (hpF hp) (gdW (isGd i l) (fcE fun e=>qrv sl hp nx o.dst (q58 E N l (i+1) r (tr++[⟨rdOf l o,o.dst,e,nx⟩]) K) e))
theorem q0g {E:Env} {N:Nat} {l:List Oper} {C0:Conf} {K:List Tr→Conf→Prop}:∀ {r:List Oper} {i:Nat} {tr:List Tr} {C:Conf},(∀ k,r[k]? = l[i+k]?)→tr.length=i→i+r.length=l.length→C=runT tr C0 →
  (∀ j o t,l[j]? = some o→tr[j]? = some t→Loc E N l.toArray o t.nx (rs t.rd (runT (tr.take j) C0).sl) (hpF (runT (tr.take j) C0).hp) t.e∧t.e.wf t.nx=true∧t.nx=(runT (tr.take j) C0).nx∧t.dst=o.dst) →
  q58 E N l i r tr K C→∃ tr',qwi E N l C0 tr'∧K tr' (runT tr' C0)
 | [],i,tr,C,hr,hl,hn,hC,hw,h=>⟨tr,⟨by simpa [hl] using hn,hw⟩,by rw [← hC];exact h⟩
 |o::r,i,tr,⟨sl,hp,nx⟩,hr,hl,hn,hC,hw,h=>by
  obtain⟨e,hL,h⟩:=h.ex;obtain⟨e,hL,h⟩:=qye hL h;rw [qx3] at h;obtain⟨hwf,h⟩:=qps h
  ·refine q0g (r:=r) (i:=i+1) (tr:=tr++[⟨rdOf l o,o.dst,e,nx⟩]) (fun k=>?_) (by simp [hl]) (by simp at hn;omega) (by rw [qzw,← hC]) (fun j o' t ho ht=>?_) h
   ·have:=hr (k+1)
    rw [show i+1+k=i+(k+1) by omega,← this];rfl
   ·by_cases hj:j<tr.length
    ·rw [List.getElem?_append_left hj] at ht
     rw [List.take_append_of_le_length (by omega)];exact hw j o' t ho ht
    ·have p8:j=tr.length:=by
      have:=lt_of_getElem? ht;simp at this;omega
     subst p8;simp only [List.getElem?_concat_length,Option.some.injEq] at ht;subst ht;have u6:=hr 0;rw [← hl,Nat.add_zero,ho] at u6;simp only [List.getElem?_cons_zero,Option.some.injEq] at u6;subst u6;rw [List.take_left,← hC];exact⟨hL,hwf,rfl,rfl⟩
theorem q9f {E:Env} {rd:Option Nat} {N:Nat} {B:Bs} {Q:Exit→Conf→Prop} {C:Conf} {id:Nat} {ops:Array Oper}
  (h:q58 E N ops.toList 0 ops.toList [] (fun tr C'=>DrOk E ops.toList tr∧Q .normal C') C):Sm E rd N B (.region id ops true) Q C:=⟨fun s hs=>by
 obtain⟨tr,hw,hb,hq⟩:=q0g (C0:=C) (l:=ops.toList) (i:=0) (tr:=[]) (fun k=>by rw [Nat.zero_add]) rfl (by simp) rfl (fun j o t _ ht=>by simp at ht) h;have hb:=hb.ok;simp only [drB,Bool.and_eq_true] at hb;have e:ops=ops.toList.toArray:=by simp
 rw [e]
 exact qt6 hb.1.1.1 hb.1.1.2 hb.1.2 hw hb.2 hs fun s' bt=>⟨_,hq,bt⟩⟩
theorem locK {E:Env} {N:Nat} {l:List Oper} {o:Oper} {nx:Nat} {sl:List (Nat×SV)} {H:Nat→Option SR} {k:Ef→Prop} (h:opG E N l [] nx sl H k o):LocK E N l o nx sl H k:=⟨qy9 h⟩
theorem locX {E:Env} {N:Nat} {l:List Oper} {o:Oper} {nx:Nat} {sl:List (Nat×SV)} {H:Nat→Option SR} {k:Ef→Prop} (h:∃ e,Loc E N l.toArray o nx sl H e∧k e):LocK E N l o nx sl H k:=⟨h⟩
end Go.Av
namespace Go.Pl
open Go Go.Proofs Go.Proofs.YtapblfabkbdgcaaGreatDoor
section
variable {α : Type} [DecidableEq α]
def jz (a b:List α) (i j:Nat):Int:=(vu a b i j:Int)
def rowF (a b:List α) (i n:Nat):List Int:=(List.range n).map (jz a b i)
theorem qfg (a b:List α) (i n:Nat):(rowF a b i n).length=n:=by simp [rowF]
theorem q9a (a b:List α) (i n:Nat):rowF a b i (n+1)=rowF a b i n++[jz a b i n]:=by simp [rowF,List.range_succ]
theorem qzu (a b:List α) (i:Nat) {n j:Nat} (h:j<n):(rowF a b i n)[j]? = some (jz a b i j):=by
 unfold rowF;rw [List.getElem?_map,List.getElem?_range h];rfl
def yi (a b:List α) (i n j:Nat):List Int:=rowF a b i j++List.replicate (n - j) 0
theorem q8v (a b:List α) (i:Nat) {n j:Nat} (h:j≤n):(yi a b i n j).length=n:=by
 unfold yi;rw [List.length_append,qfg,List.length_replicate];omega
theorem q5e (a b:List α) (i n:Nat):yi a b i n 0=List.replicate n 0:=by simp [yi,rowF]
theorem q5d (a b:List α) (i n:Nat):yi a b i n n=rowF a b i n:=by simp [yi]
theorem q8u (a b:List α) (i:Nat) {n j k:Nat} (h:k<j):(yi a b i n j)[k]? = some (jz a b i k):=by
 unfold yi;rw [List.getElem?_append_left (by rw [qfg];exact h)];exact qzu a b i h
theorem q8w (a b:List α) (i:Nat) {n j:Nat} (h:j<n):(yi a b i n j).set j (jz a b i j)=yi a b i n (j+1):=by
 unfold yi;have e:n - j=n - (j+1)+1:=by omega
 rw [List.set_append_right _ _ (by rw [qfg];exact Nat.le_refl _),qfg,Nat.sub_self,e,List.replicate_succ,List.set_cons_zero,q9a,List.append_assoc];rfl
theorem zd8 (a b:List α) (j:Nat):jz a b 0 j=j:=by unfold jz;rw [qio]
theorem qs4 (a b:List α) (i:Nat):jz a b i 0=i:=by unfold jz;rw [qfy]
theorem q4e (a b:List α) {i j:Nat} (h:a[i]? = b[j]?):jz a b (i+1) (j+1)=jz a b i j:=by unfold jz;rw [qnm,if_pos h]
theorem q0y (a b:List α) {i j:Nat} (h:¬ a[i]? = b[j]?):jz a b (i+1) (j+1)=1+min (min (jz a b i j) (jz a b i (j+1))) (jz a b (i+1) j):=by
 unfold jz;rw [qnm,if_neg h];omega
def qgb (a b:List α) (n m:Nat):List (List Int):=(List.range n).map fun i=>rowF a b i m
theorem q10 (a b:List α) (n m:Nat):qgb a b (n+1) m=qgb a b n m++[rowF a b n m]:=by simp [qgb,List.range_succ]
theorem q5y (a b:List α) (m:Nat) {n i:Nat} (h:i<n):(qgb a b n m)[i]? = some (rowF a b i m):=by
 unfold qgb;rw [List.getElem?_map,List.getElem?_range h];rfl
theorem q5z (a b:List α) (n m:Nat):(qgb a b n m).length=n:=by simp [qgb]
def qi0 (i j:Nat) (same:Bool) (diag up here:Int):Int:=
 if 0<i∧0<j∧same=true∧diag=here then 1 else if 0<i∧0<j∧diag=here - 1 then 2 else if 0<i∧up=here - 1 then 3 else 4
theorem zbg (a b:List α) (i j:Nat):qi0 i j (decide (a[i - 1]? = b[j - 1]?)) (jz a b (i - 1) (j - 1)) (jz a b (i - 1) j) (jz a b i j)=xc a b i j:=by
 have e1:∀ x y:Nat,((x:Int)=(y:Int) - 1)↔x+1=y:=fun x y=>by omega
 have e2:∀ x y:Nat,((x:Int)=(y:Int))↔x=y:=fun x y=>by omega
 unfold qi0 xc jz;simp only [decide_eq_true_eq,e1,e2]
structure qgn (a b:List α) (out:List Int) (n i j:Nat):Prop where
 le:i+j≤n
 hi:i≤a.length
 hj:j≤b.length
 eq:(wayF a b).reverse=out++wayB a b n i j
theorem q90 (a b:List α):qgn a b [] (a.length+b.length) a.length b.length:=⟨Nat.le_refl _,Nat.le_refl _,Nat.le_refl _,by simp [wayF]⟩
theorem zc5 {a b:List α} {out:List Int} {n i j:Nat} (h:qgn a b out n i j) (h0:¬ (i=0∧j=0)) :
  ∃ m,m+1=n∧qgn a b (out++[xc a b i j]) m (if xc a b i j=4 then i else i - 1) (if xc a b i j=3 then j else j - 1):=by
 obtain⟨m,rfl⟩:∃ m,n=m+1:=⟨n - 1,by have:=h.le;omega⟩;have h1:=h.le;have h2:=h.hi;have h3:=h.hj;refine⟨m,rfl,?_,by split <;> omega,by split <;> omega,?_⟩
 ·have l:=qmy a b i j
  have r:=qk2 a b i j h0;rcases qmz a b i j with e|e|e|e <;> rw [e] at l r ⊢ <;> simp at l r ⊢ <;> omega
 ·rw [h.eq,wayB,if_neg h0]
  simp
theorem zgo {a b:List α} {out:List Int} {n:Nat} (h:qgn a b out n 0 0):out.reverse=wayF a b:=by
 have:=h.eq;have e:wayB a b n 0 0=[]:=by cases n <;> simp [wayB]
 rw [e,List.append_nil] at this;rw [← this,List.reverse_reverse]
end
theorem zfn {w:Int} {ws:List Int} {S:List (Int×List Fld)} {R:List (List Fld)} (h:OkW (w::ws) S R) :
  (w=1∧∃ s S' R',S=s::S'∧R=s.2::R'∧OkW ws S' R')∨(w=2∧∃ s S' r R',S=s::S'∧R=r::R'∧OkW ws S' R')∨(w=3∧∃ s S',S=s::S'∧OkW ws S' R)∨(w=4∧∃ r R',R=r::R'∧OkW ws S R'):=by
 cases h with
 |keep h=>exact .inl ⟨rfl,_,_,_,rfl,rfl,h⟩
 |change h=>exact .inr (.inl ⟨rfl,_,_,_,_,rfl,rfl,h⟩)
 |drop h=>exact .inr (.inr (.inl ⟨rfl,_,_,rfl,h⟩))
 |add h=>exact .inr (.inr (.inr ⟨rfl,_,_,rfl,h⟩))
theorem zfo {S:List (Int×List Fld)} {R:List (List Fld)} (h:OkW [] S R):S=[]∧R=[]:=by
 cases h
 exact⟨rfl,rfl⟩
theorem zem (ws:List Int) (s:Int×List Fld) (S:List (Int×List Fld)) (r:List Fld) (R:List (List Fld)) (bh nx:Int):zr (1::ws) (s::S) (r::R) bh nx=zr ws S R s.1 nx:=by simp [zr]
theorem q7j (ws:List Int) (s:Int×List Fld) (S:List (Int×List Fld)) (r:List Fld) (R:List (List Fld)) (bh nx:Int):zr (2::ws) (s::S) (r::R) bh nx=⟨1,s.1,r⟩::zr ws S R s.1 nx:=by simp [zr]
theorem zel (ws:List Int) (s:Int×List Fld) (S:List (Int×List Fld)) (R:List (List Fld)) (bh nx:Int):zr (3::ws) (s::S) R bh nx=⟨2,s.1,[]⟩::zr ws S R bh nx:=by simp [zr]
theorem zg8 (ws:List Int) (S:List (Int×List Fld)) (r:List Fld) (R:List (List Fld)) (bh nx:Int):zr (4::ws) S (r::R) bh nx=⟨3,bh,r⟩::zr ws S R nx (nx+1):=by simp [zr]
structure EdAt (full out:List qq) (ws:List Int) (S:List (Int×List Fld)) (R:List (List Fld)) (bh nx:Int):Prop where
 ok:OkW ws S R
 eq:full=out++zr ws S R bh nx
theorem za0 {ws:List Int} {S:List (Int×List Fld)} {R:List (List Fld)} (h:OkW ws S R) (bh nx:Int):EdAt (zr ws S R bh nx) [] ws S R bh nx:=⟨h,rfl⟩
theorem zg9 {full out:List qq} {S:List (Int×List Fld)} {R:List (List Fld)} {bh nx:Int} (h:EdAt full out [] S R bh nx):full=out:=by
 rw [h.eq,zr,List.append_nil]
theorem zen {full out:List qq} {w:Int} {ws:List Int} {S:List (Int×List Fld)} {R:List (List Fld)} {bh nx:Int} (h:EdAt full out (w::ws) S R bh nx) :
  (w=1∧∃ s S' R',S=s::S'∧R=s.2::R'∧EdAt full out ws S' R' s.1 nx)∨(w=2∧∃ s S' r R',S=s::S'∧R=r::R'∧EdAt full (out++[⟨1,s.1,r⟩]) ws S' R' s.1 nx) ∨
  (w=3∧∃ s S',S=s::S'∧EdAt full (out++[⟨2,s.1,[]⟩]) ws S' R bh nx)∨(w=4∧∃ r R',R=r::R'∧EdAt full (out++[⟨3,bh,r⟩]) ws S R' nx (nx+1)):=by
 obtain⟨ho,he⟩:=h;rcases zfn ho with⟨rfl,s,S',R',rfl,rfl,h⟩ | ⟨rfl,s,S',r,R',rfl,rfl,h⟩ | ⟨rfl,s,S',rfl,h⟩ | ⟨rfl,r,R',rfl,h⟩
 ·rw [zem] at he
  exact .inl ⟨rfl,s,S',R',rfl,rfl,h,he⟩
 ·rw [q7j] at he
  exact .inr (.inl ⟨rfl,s,S',r,R',rfl,rfl,h,by rw [he];simp⟩)
 ·rw [zel] at he
  exact .inr (.inr (.inl ⟨rfl,s,S',rfl,h,by rw [he];simp⟩))
 ·rw [zg8] at he
  exact .inr (.inr (.inr ⟨rfl,r,R',rfl,h,by rw [he];simp⟩))
end Go.Pl
namespace Go.Pl
open Go Go.Proofs Go.Proofs.YtapblfabkbdgcaaGreatDoor
structure PatV where
 fr:BitVec 32
 to':BitVec 32
 b:List qq
def pat0:PatV:=⟨0,0,[]⟩
def xu (l:q7):List (List Fld):=(stzF l.ents).map Prod.snd
def qch (text:qc) (l:q7) (R:List (List Fld)):ErrV×PatV:=
 if 40<(wi l R).length then (.num 1,pat0)
 else if (vl l (wi l R)).1 = .no then (.no,⟨addP 0 text,addP 0 (qai (vl l (wi l R)).2),wi l R⟩)
 else ((vl l (wi l R)).1,pat0)
def xi (old now:qc):ErrV×PatV:=
 if kv old = .no then (if kv now = .no then qch old (ofF (itsE old)) (xu (ofF (itsE now))) else (kv now,pat0)) else (kv old,pat0)
def qhm (text:qc) (p:PatV):ErrV×qc:=
 if kv text = .no then
  (if addP 0 text=p.fr then
   (if (vl (ofF (itsE text)) p.b).1 = .no then
    (if addP 0 (qai (vl (ofF (itsE text)) p.b).2)=p.to' then (.no,qai (vl (ofF (itsE text)) p.b).2) else (.num 10,[]))
   else ((vl (ofF (itsE text)) p.b).1,[]))
  else (.num 13,[]))
 else (kv text,[])
theorem qy8 {text:qc} (h:kv text = .no):GL (ofF (itsE text)):=by
 obtain⟨h1,_,h3⟩:=qjv h;refine zhw ?_ ?_
 ·rw [h3];exact qm8 h1
 ·rw [h3];exact q8q h1
theorem zat {l:q7} (h:GL l) (b:List qq):GL (vl l b).2:=by
 unfold vl;split
 ·exact h
 ·exact zg3 h b
theorem qsd {l:q7} (h:GL l):∀ r∈xu l,zw r = .no:=q9r h
theorem zff {old now:qc} (h:(xi old now).1 = .no):kv old = .no∧kv now = .no∧(xi old now).2=⟨addP 0 old,addP 0 (qai (vl (ofF (itsE old)) (xi old now).2.b).2),(xi old now).2.b⟩∧(vl (ofF (itsE old)) (xi old now).2.b).1 = .no∧xu (vl (ofF (itsE old)) (xi old now).2.b).2=xu (ofF (itsE now)):=by
 unfold xi at h ⊢;by_cases h1:kv old = .no
 ·rw [if_pos h1] at h ⊢
  by_cases h2:kv now = .no
  ·rw [if_pos h2] at h ⊢
   unfold qch at h ⊢;by_cases h3:40<(wi (ofF (itsE old)) (xu (ofF (itsE now)))).length
   ·rw [if_pos h3] at h
    simp at h
   ·rw [if_neg h3] at h ⊢
    have hd:=q7d (l:=ofF (itsE old)) (R:=xu (ofF (itsE now))) (q8b _) (qsd (qy8 h2)) (by omega);by_cases h4:(vl (ofF (itsE old)) (wi (ofF (itsE old)) (xu (ofF (itsE now))))).1 = .no
    ·rw [if_pos h4]
     rcases hd with⟨j,hd⟩ | ⟨_,hd⟩
     ·rw [h4] at hd
      simp at hd
     ·exact⟨h1,h2,rfl,h4,hd⟩
    ·rw [if_neg h4] at h
     exact absurd h h4
  ·rw [if_neg h2] at h
   exact absurd h h2
 ·rw [if_neg h1] at h
  exact absurd h h1
theorem qu8 {old now:qc} (h:(xi old now).1 = .no):(qhm old (xi old now).2).1 = .no∧(qhm old (xi old now).2).2=qai (vl (ofF (itsE old)) (xi old now).2.b).2:=by
 obtain⟨h1,h2,h3,h4,_⟩:=zff h;have hf:=congrArg PatV.fr h3;have ht:=congrArg PatV.to' h3;dsimp only at hf ht;unfold qhm;rw [if_pos h1,if_pos hf.symm,if_pos h4,if_pos ht.symm];exact⟨rfl,rfl⟩
def hexB:qc:=[48,49,50,51,52,53,54,55,56,57,97,98,99,100,101,102]
def hexN (c:UInt8):Option Nat:=if 48≤c.toNat∧c.toNat≤57 then some (c.toNat - 48) else if 97≤c.toNat∧c.toNat≤102 then some (c.toNat - 87) else none
theorem qyj {n:Nat} (h:n<16):hexN (hexB.getD n 0)=some n:=by
 have key:∀ i:Fin 16,hexN (hexB.getD i.val 0)=some i.val:=by decide +kernel
 exact key ⟨n,h⟩
theorem qa1 {c:UInt8} {n:Nat} (h:hexN c=some n):n<16∧hexB.getD n 0=c:=by
 have key:∀ i:Fin 256,∀ m:Fin 256,hexN (UInt8.ofNat i.val)=some m.val→m.val<16∧hexB.getD m.val 0=UInt8.ofNat i.val:=by decide +kernel
 have hn:n<256:=by
  have:=c.toNat_lt;unfold hexN at h;repeat' split at h
  all_goals simp at h
  all_goals omega
 have:=key ⟨c.toNat,c.toNat_lt⟩ ⟨n,hn⟩;simp only [UInt8.ofNat_toNat] at this;exact this h
def qjd:qc→Nat→Option Nat
 | [],a=>some a
 |c::r,a=>match hexN c with
  |none=>none
  |some n=>qjd r (16 * a+n)
def qah (s:qc):Option (BitVec 32):=if s.length=8 then (qjd s 0).map (BitVec.ofNat 32) else none
theorem qpd (x:BitVec 32) (j:Nat):figP x j=hexB.getD (x.toNat / 2 ^ (4 * (7 - j)) % 16) 0:=by
 unfold figP
 have e:((x >>> (4 * (7 - j))) &&& BitVec.ofInt 32 15).toNat=x.toNat / 2 ^ (4 * (7 - j)) % 16:=by
  rw [BitVec.toNat_and,BitVec.toNat_ushiftRight,Nat.shiftRight_eq_div_pow];exact Nat.and_two_pow_sub_one_eq_mod _ 4
 rw [e];rfl
theorem qut (x:BitVec 32):jq x 8=[figP x 0,figP x 1,figP x 2,figP x 3,figP x 4,figP x 5,figP x 6,figP x 7]:=rfl
theorem qci (x:BitVec 32):(jq x 8).length=8:=by simp [jq]
theorem qje (x:BitVec 32):qah (jq x 8)=some x:=by
 have hx:=x.isLt
 have hs:∀ j,hexN (figP x j)=some (x.toNat / 2 ^ (4 * (7 - j)) % 16):=fun j=>by
  rw [qpd];exact qyj (Nat.mod_lt _ (by omega))
 unfold qah;rw [if_pos (qci x),qut];simp only [qjd,hs];refine congrArg some ?_;apply BitVec.eq_of_toNat_eq;rw [BitVec.toNat_ofNat];simp only [Nat.reduceSub,Nat.reduceMul,Nat.reducePow];omega
theorem qvq {s:qc} {x:BitVec 32} (h:qah s=some x):s=jq x 8:=by
 unfold qah at h;split at h
 ·rename_i hl
  match s,hl with
  | [c0,c1,c2,c3,c4,c5,c6,c7],_=>
   simp only [qjd] at h
   cases h0:hexN c0 with
   |none=>simp [h0] at h
   |some n0=>
   cases h1:hexN c1 with
   |none=>simp [h0,h1] at h
   |some n1=>
   cases h2:hexN c2 with
   |none=>simp [h0,h1,h2] at h
   |some n2=>
   cases h3:hexN c3 with
   |none=>simp [h0,h1,h2,h3] at h
   |some n3=>
   cases h4:hexN c4 with
   |none=>simp [h0,h1,h2,h3,h4] at h
   |some n4=>
   cases h5:hexN c5 with
   |none=>simp [h0,h1,h2,h3,h4,h5] at h
   |some n5=>
   cases h6:hexN c6 with
   |none=>simp [h0,h1,h2,h3,h4,h5,h6] at h
   |some n6=>
   cases h7:hexN c7 with
   |none=>simp [h0,h1,h2,h3,h4,h5,h6,h7] at h
   |some n7=>
   simp only [h0,h1,h2,h3,h4,h5,h6,h7,Option.map_some,Option.some.injEq] at h;obtain⟨b0,rfl⟩:=qa1 h0;obtain⟨b1,rfl⟩:=qa1 h1;obtain⟨b2,rfl⟩:=qa1 h2;obtain⟨b3,rfl⟩:=qa1 h3;obtain⟨b4,rfl⟩:=qa1 h4;obtain⟨b5,rfl⟩:=qa1 h5;obtain⟨b6,rfl⟩:=qa1 h6;obtain⟨b7,rfl⟩:=qa1 h7
   have hv:x.toNat=16 * (16 * (16 * (16 * (16 * (16 * (16 * (16 * 0+n0)+n1)+n2)+n3)+n4)+n5)+n6)+n7:=by
    rw [← h,BitVec.toNat_ofNat];exact Nat.mod_eq_of_lt (by omega)
   rw [qut];simp only [qpd,Nat.reduceSub,Nat.reduceMul,Nat.reducePow]
   rw [show x.toNat / 268435456 % 16=n0 by omega,show x.toNat / 16777216 % 16=n1 by omega,show x.toNat / 1048576 % 16=n2 by omega,show x.toNat / 65536 % 16=n3 by omega,
    show x.toNat / 4096 % 16=n4 by omega,show x.toNat / 256 % 16=n5 by omega,show x.toNat / 16 % 16=n6 by omega,show x.toNat / 1 % 16=n7 by omega]
 ·simp at h
def wo:qc:=[37,112,97,116,99,104,32]
def qc6 (p:PatV):qc:=wo++(jq p.fr 8++(32::(jq p.to' 8++[10])))
def vg (p:PatV):ErrV×qc:=if p.b=[] then (.no,qc6 p) else if eErr p.b = .no then (.no,qc6 p++encF p.b) else (eErr p.b,[])
def qav (body:qc):Option (List qq):=if body=[] then some [] else decF body
def qi8 (text:qc):Option PatV:=
 match qav (past 10 text) with
 |none=>none
 |some b=>
  let t:=Lib.trimPrefix (upto 10 text) wo
  let p:PatV:=⟨(qah (upto 32 t)).getD 0,(qah (past 32 t)).getD 0,b⟩
  if vg p=(.no,text) then some p else none
def qkd (text:qc):Option PatV:=
 if text.length<25∨text.take 7≠wo∨text[15]?≠some 32∨text[24]?≠some 10 then none
 else match qah ((text.take 15).drop 7),qah ((text.take 24).drop 16) with
  |some a,some b=>(qav (text.drop 25)).map fun e=>⟨a,b,e⟩
  | _,_=>none
theorem zeb {t:qc} {b:List qq} (h:decF t=some b):b≠[]:=fun e=>by
 obtain⟨h1,_⟩:=qe6 h;subst e;unfold eErr at h1;simp at h1
theorem qno (x:BitVec 32) {c:UInt8} (h:hexN c=none):c∉jq x 8:=fun hm=>by
 unfold jq at hm;obtain⟨j,_,rfl⟩:=List.mem_map.1 hm;rw [qpd,qyj (Nat.mod_lt _ (by omega))] at h;simp at h
theorem qyh (p:PatV):(qc6 p).length=25:=by
 unfold qc6;simp [qci,wo]
theorem qzk (text:qc) (p:PatV):qi8 text=some p↔∃ body,text=qc6 p++body∧qav body=some p.b:=by
 constructor
 ·intro h
  unfold qi8 at h;split at h
  ·simp at h
  ·rename_i b hb
   simp only at h;split at h
   ·rename_i hp
    simp only [Option.some.injEq] at h;rw [h] at hp;have hpb:p.b=b:=by rw [← h]
    unfold vg at hp;split at hp
    ·rename_i h0
     simp only [Prod.mk.injEq,true_and] at hp;exact⟨[],by rw [hp];simp,by rw [h0];rfl⟩
    ·rename_i h0
     split at hp
     ·simp only [Prod.mk.injEq,true_and] at hp
      refine⟨encF p.b,hp.symm,?_⟩;unfold qav at hb;split at hb
      ·simp only [Option.some.injEq] at hb
       exact absurd (hpb.trans hb.symm) h0
      ·rename_i h1
       have h2:=(qe6 hb).2.1;rw [hpb,h2];unfold qav;rw [if_neg h1];exact hb
     ·rename_i h1
      simp only [Prod.mk.injEq] at hp;exact absurd hp.1 h1
   ·simp at h
 ·rintro⟨body,rfl,hb⟩
  have e1:qc6 p++body=(wo++(jq p.fr 8++32::jq p.to' 8))++10::body:=by unfold qc6;simp
  have n1:(10:UInt8)∉wo++(jq p.fr 8++32::jq p.to' 8):=by
   simp only [List.mem_append,List.mem_cons,not_or];exact⟨by decide,qno _ rfl,by decide,qno _ rfl⟩
  have e2:Lib.trimPrefix (wo++(jq p.fr 8++32::jq p.to' 8)) wo=jq p.fr 8++32::jq p.to' 8:=by
   rw [qdr (List.prefix_append _ _)];exact List.drop_left
  unfold qi8;rw [e1,w7 _ n1,wg _ n1,hb];simp only;rw [e2,wg _ (qno _ rfl),w7 _ (qno _ rfl),qje,qje];simp only [Option.getD_some];refine if_pos ?_
  show vg p=_
  rw [← e1];unfold vg;unfold qav at hb;split at hb
  ·rename_i h0
   simp only [Option.some.injEq] at hb;rw [if_pos hb.symm,h0];simp
  ·rw [if_neg (zeb hb),if_pos (qe6 hb).1,(qe6 hb).2.1]
theorem qm7 (text:qc) (p:PatV):qkd text=some p↔∃ body,text=qc6 p++body∧qav body=some p.b:=by
 constructor
 ·intro h
  unfold qkd at h;split at h
  ·simp at h
  ·rename_i hc
   simp only [not_or,Decidable.not_not] at hc;obtain⟨h1,h2,h3,h4⟩:=hc;split at h
   ·rename_i a b ha hb
    cases mz:qav (text.drop 25) with
    |none=>rw [mz] at h;simp at h
    |some e=>
    rw [mz] at h;simp only [Option.map_some,Option.some.injEq] at h;subst h;refine⟨text.drop 25,?_,mz⟩;have e1:=qvq ha;have e2:=qvq hb;unfold qc6;simp only;rw [← e1,← e2,← h2];have q1:=List.take_append_drop 7 (text.take 15);have q2:=List.take_append_drop 16 (text.take 24);have q3:text.take 16=text.take 15++[32]:=by rw [List.take_add_one,h3];rfl
    have q4:text.take 25=text.take 24++[10]:=by rw [List.take_add_one,h4];rfl
    have q5:=List.take_append_drop 25 text;rw [List.take_take,show min 7 15=7 from rfl] at q1;rw [List.take_take,show min 16 24=16 from rfl,q3,← q1] at q2;rw [q4,← q2] at q5
    conv=>lhs;rw [← q5]
    simp
   ·simp at h
 ·rintro⟨body,rfl,hb⟩
  have e1:qc6 p++body=wo++(jq p.fr 8++(32::(jq p.to' 8++(10::body)))):=by unfold qc6;simp
  have l1:=qci p.fr;have l2:=qci p.to';generalize hf:jq p.fr 8=f at *;generalize ht:jq p.to' 8=t at *;unfold qkd;rw [e1]
  match f,l1,t,l2 with
  | [a0,a1,a2,a3,a4,a5,a6,a7],_,[b0,b1,b2,b3,b4,b5,b6,b7],_=>
   rw [if_neg (by simp [wo])];simp only [wo,List.cons_append,List.nil_append,List.take_succ_cons,List.take_zero,List.drop_succ_cons,List.drop_zero];rw [← hf,← ht,qje,qje,hb];rfl
theorem q5k (text:qc):qi8 text=qkd text:=by
 cases h:qkd text with
 |some p=>exact (qzk text p).2 ((qm7 text p).1 h)
 |none=>
  cases h2:qi8 text with
  |none=>rfl
  |some p=>
   rw [(qm7 text p).2 ((qzk text p).1 h2)] at h;simp at h
theorem q1n {p:PatV} {s:qc} (h:vg p=(.no,s)) (hB:∀ x∈p.b,EdB x) (hl:s.length≤50000):qkd s=some p:=by
 unfold vg at h;refine (qm7 s p).2 ?_;split at h
 ·rename_i h0
  simp only [Prod.mk.injEq,true_and] at h;exact⟨[],by rw [h];simp,by rw [h0];rfl⟩
 ·rename_i h0
  split at h
  ·rename_i h1
   simp only [Prod.mk.injEq,true_and] at h;rw [← h,List.length_append] at hl;have hd:=zec h1 hB (by omega);refine⟨encF p.b,h.symm,?_⟩;unfold qav;split
   ·rename_i h2
    rw [h2] at hd;exact absurd hd (by rw [show decF []=none from by decide +kernel];simp)
   ·exact hd
  ·rename_i h1
   simp only [Prod.mk.injEq] at h;exact absurd h.1 h1
end Go.Pl
namespace Go.Pl
open Go Go.Proofs Go.Av Go.Proofs.YtapblfabkbdgcaaGreatDoor
theorem zeu (c:UInt8):Lib.indexByte hexB c=match hexN c with
  |some n=>(n:Int)
  |none=> -1:=by
 have key:∀ i:Fin 256,Lib.indexByte hexB (UInt8.ofNat i.val)=match hexN (UInt8.ofNat i.val) with
  |some n=>(n:Int)
  |none=> -1:=by decide +kernel
 have h:=key ⟨c.toNat,c.toNat_lt⟩
 simpa using h
theorem shl_or {a n:Nat} (hn:n<16):a * 16 |||n=16 * a+n:=by
 have h:=Nat.shiftLeft_add_eq_or_of_lt (i:=4) (b:=n) (by omega) a;rw [Nat.shiftLeft_eq] at h;rw [show a * 16=a * 2 ^ 4 by omega,← h];omega
theorem q6a (x y:BitVec 32):(x.toNat:Int)=y.toNat↔x=y:=by
 constructor
 ·intro h
  exact BitVec.eq_of_toNat_eq (by omega)
 ·rintro rfl
  rfl
theorem qeu (C:Int):∀ (ws:List Int) (S:List (Int×List Fld)) (R:List (List Fld)) (bh nx:Int),(∀ s∈S,0≤s.1∧s.1≤C)→0≤bh→bh≤C→0≤nx→nx+ws.length≤C→∀ x∈zr ws S R bh nx,0≤x.id∧x.id≤C
 | [],_,_,_,_,_,_,_,_,_,x,hx=>by simp [zr] at hx
 |w::ws,S,R,bh,nx,hS,b0,b1,n0,n1,x,hx=>by
  have hT:∀ s∈S.tail,0≤s.1∧s.1≤C:=fun s hs=>hS s (List.mem_of_mem_tail hs)
  have hh:0≤(S.headD (0,[])).1∧(S.headD (0,[])).1≤C:=by
   cases S with
   |nil=>simp;omega
   |cons s r=>exact hS s (by simp)
  simp only [List.length_cons] at n1;rw [zr] at hx;split at hx
  ·rcases List.mem_cons.1 hx with rfl|hx
   ·exact⟨b0,b1⟩
   ·exact qeu C ws S R.tail nx (nx+1) hS n0 (by omega) (by omega) (by omega) x hx
  ·split at hx
   ·rcases List.mem_cons.1 hx with rfl|hx
    ·exact hh
    ·exact qeu C ws S.tail R bh nx hT b0 b1 n0 (by omega) x hx
   ·split at hx
    ·rcases List.mem_cons.1 hx with rfl|hx
     ·exact hh
     ·exact qeu C ws S.tail R.tail _ nx hT hh.1 hh.2 n0 (by omega) x hx
    ·exact qeu C ws S.tail R.tail _ nx hT hh.1 hh.2 n0 (by omega) x hx
theorem q0f {α : Type} [DecidableEq α] (a b:List α):∀ n i j:Nat,(wayB a b n i j).length≤n
 | 0,_,_=>by simp [wayB]
 |n+1,i,j=>by
  rw [wayB];split
  ·simp
  ·have:=q0f a b n (if xc a b i j=4 then i else i - 1) (if xc a b i j=3 then j else j - 1)
   simp only [List.length_cons];omega
theorem qqa {α : Type} [DecidableEq α] (a b:List α):(wayF a b).length≤a.length+b.length:=by
 unfold wayF;rw [List.length_reverse];exact q0f a b _ _ _
structure yz (b:List qq):Prop where
 ed:∀ x∈b,EdB x
 len:b.length≤60
 fl:∀ x∈b,x.fields.length<1000000
theorem qzv {text:qc} (h:kv text = .no):∀ r∈xu (ofF (itsE text)),zw r = .no:=qsd (qy8 h)
theorem zgc (text:qc):∀ s∈stzF (ofF (itsE text)).ents,0≤s.1∧s.1≤(ofF (itsE text)).next:=fun s hs=>by
 obtain⟨e,he,rfl⟩:=List.mem_map.1 hs;obtain⟨h1,h2⟩:=List.mem_filter.1 he;have:=of_decide_eq_true h2;have:=(q8b (itsE text)).lt e h1;simp only;omega
theorem q7h {text:qc} {R:List (List Fld)} (hR:∀ r∈R,zw r = .no) (hl:R.length<1000000) (tk:(wi (ofF (itsE text)) R).length≤40):yz (wi (ofF (itsE text)) R):=by
 have hB:=qez text;have dp:=hB.nx0;have hn1:=hB.nx1;have hg:=qoz (qtw (stzF (ofF (itsE text)).ents) R) 0 (ofF (itsE text)).next hR;have hw:=qqa ((stzF (ofF (itsE text)).ents).map Prod.snd) R;have fk:=qia (ofF (itsE text)).ents;have s8:=hB.len;rw [List.length_map] at hw;have hi:=qeu 10000000 (wayF ((stzF (ofF (itsE text)).ents).map Prod.snd) R) (stzF (ofF (itsE text)).ents) R 0 (ofF (itsE text)).next (fun s hs=>by have:=zgc text s hs;omega) (by omega) (by omega) (by omega) (by omega);refine⟨fun x hx=>?_,by omega,fun x hx=>by have:=(qd9 (hg x hx)).1;omega⟩;obtain⟨h1,h2⟩:=qd9 (hg x hx);obtain⟨h3,h4⟩:=hi x hx;exact⟨fun f hf=>((qyg h1 h2).val f hf).1,by omega,by omega,by omega⟩
end Go.Pl
namespace Go.Proofs.YtapblfabkbdgcaaGreatDoor
open Go Go.Av Go.RowKit Go.Proofs Go.Pl
def qhd (b:List qq):AV:=if 40<b.length then .tu [jo [],errA (.num 1)] else .tu [jo b,errA .no]
theorem qxx (b:List qq):Pure (qhd b):=by
 unfold qhd;split
 ·exact kw (qb5 _) (va _)
 ·exact kw (qb5 _) (va _)
theorem q7o:EqT Tryz.prog 98:=⟨by kernel_rfl,by kernel_rfl,by kernel_rfl⟩
theorem zgh {α : Type} {a b:List α} {k:Nat} {x y : α} (hx:a[k]? = some x) (hy:b[k]? = some y) (h:x≠y):a≠b:=fun e=>by
 subst e;rw [hx] at hy;exact h (by simpa using hy)
theorem qnd {α : Type} {a:List α} {k:Nat} {x : α} (hx:a[k]? = some x):a.take (k+1)=a.take k++[x]:=by rw [List.take_add_one,hx];rfl
theorem za2 (a b:List Fld) (st:List AObj) (ha:a.length<1000000):qn E 235 [zl a,zl b] st fun r st'=>r=Bv (decide (a=b))∧st'=st:=by
 refine zt [.a (zl a),.a (zl b)] (q8 _) Tryz.func235 rfl rfl (fun _=>rfl) rfl fun S0=>?_;have hma:(a.map fldA).length=a.length:=by simp
 have hmb:(b.map fldA).length=b.length:=by simp
 by_cases hl:a.length=b.length
 ·apply qf []
  repeat' (first|apply And.intro|(intro h;try exact cDd)|exact cSd|apply qd []|refine exr ?_|refine qk ?_)
  refine ke (X:=Nat) (fun k=>⟨[(0,.a (zl a)),(1,.a (zl b)),(12,.i a.length),(13,.i k)],[],0⟩) (fun k=>k≤a.length∧a.take k=b.take k) (fun k=>a.length - k) 0 ⟨by omega,by simp⟩ ?_ ?_
  ·skip
   repeat' (first|apply And.intro|(intro h;try exact cDd)|exact cSd|apply qd []|refine exr ?_|refine qk ?_)
   all_goals first|rfl|(simp;done)
  ·rintro k ⟨hk,ht⟩
   by_cases i8:k<a.length
   ·have hx:a[k]? = some a[k]:=List.getElem?_eq_getElem i8
    have hy:b[k]? = some (b[k]'(by omega)):=List.getElem?_eq_getElem (by omega);have m7:(a.map fldA)[k]? = some (fldA a[k]):=by rw [List.getElem?_map,hx];rfl
    have hym:(b.map fldA)[k]? = some (fldA (b[k]'(by omega))):=by rw [List.getElem?_map,hy];rfl
    have h1:=qnd hx;have h2:=qnd hy;generalize a[k]=x at hx m7 h1;generalize b[k]'(by omega)=y at hy hym h2;by_cases tj:x=y
    ·subst tj
     have hq:x.1=x.1∧x.2=x.2∧True:=⟨rfl,rfl,trivial⟩;apply qf [];repeat' (first|apply And.intro|(intro h;try exact cDd)|(refine Exists.intro (k) ⟨by omega,_,m7,?_⟩)|(refine Exists.intro (k) ⟨by omega,_,hym,?_⟩)|(refine zdk q7o rfl rfl rfl rfl rfl ?_)|exact absurd hq (by assumption)|(refine Exists.intro (k+1) ⟨⟨by omega,by rw [h1,h2,ht]⟩,by omega,?_⟩)|exact cSd|apply qd []|refine exr ?_|refine qk ?_)
     all_goals first|rfl|(simp;done)
    ·have b8:=zgh hx hy tj
     rw [decide_eq_false b8];have hq:¬ (x.1=y.1∧x.2=y.2∧True):=fun h=>tj (Prod.ext h.1 h.2.1);apply qf [];repeat' (first|apply And.intro|(intro h;try exact cDd)|(refine Exists.intro (k) ⟨by omega,_,m7,?_⟩)|(refine Exists.intro (k) ⟨by omega,_,hym,?_⟩)|(refine zdk q7o rfl rfl rfl rfl rfl ?_)|exact absurd (by assumption) hq|exact absurd hq (by assumption)|exact cSd|apply qd []|refine exr ?_|refine qk ?_)
     all_goals first|rfl|(simp;done)
   ·have i8:k=a.length:=by omega
    subst i8;rw [List.take_length,hl,List.take_length] at ht;rw [decide_eq_true ht];apply qf [];repeat' (first|apply And.intro|(intro h;try exact cDd)|exact cSd|apply qd []|refine exr ?_|refine qk ?_)
 ·rw [decide_eq_false fun e=>hl (congrArg List.length e)]
  apply qf [];repeat' (first|apply And.intro|(intro h;try exact cDd)|exact cSd|apply qd []|refine exr ?_|refine qk ?_)
theorem q2n (a b:List Fld) (st:List AObj) (ha:a.length<1000000):qn E 216 [zl a,zl b] st fun r st'=>r=Bv (decide (a=b))∧st'=st:=by
 refine zt [.a (zl a),.a (zl b)] (q8 _) Tryz.func216 rfl rfl (fun _=>rfl) rfl fun S0=>?_;have h:=fun st=>za2 a b st ha;apply qf [];repeat' (first|apply And.intro|(intro h;try exact cDd)|exact⟨Tryz.call235⟩|refine cpe h ?_|exact cSd|apply qd []|refine exr ?_|refine qk ?_)
@[reducible] def qax (a b : List (List Fld)) (i : Nat) : List AV := (qgb a b i (b.length + 1)).map qfq
@[reducible] def tblH (a b : List (List Fld)) (i j : Nat) : List (Nat × Option SR) := [(0, some (.cells 257 [.a (xj a), .a (xj b), .tp 1])), (1, some (.rows 111 (qax a b i) [.tp 2])), (2, some (.own 1 3 ((yi a b i (b.length + 1) j).map fun n => Iv n)))]
theorem qfz (a b:List (List Fld)) (i:Nat):(qax a b i).length=i:=by simp [qax,q5z]
theorem qml (a b:List (List Fld)) {i k:Nat} (h:k<i):(qax a b i)[k]? = some (qfq (rowF a b k (b.length+1))):=by
 unfold qax;rw [List.getElem?_map,q5y a b (b.length+1) h];rfl
theorem q67 (a b:List (List Fld)) {i k:Nat} (h:k<i) (cs:List SV):((qax a b i).map SV.a++cs)[k]? = some (.a (qfq (rowF a b k (b.length+1)))):=by
 rw [List.getElem?_append_left (by rw [List.length_map,qfz];exact h),List.getElem?_map,qml a b h];rfl
theorem quc (a b:List (List Fld)) (i:Nat) (v:SV):((qax a b i).map SV.a++[v])[i]? = some v:=by
 rw [List.getElem?_append_right (by rw [List.length_map,qfz];omega),List.length_map,qfz,Nat.sub_self];rfl
theorem qh8 (a b:List (List Fld)) (i:Nat) {n j:Nat} (h:j<n):((rowF a b i n).map fun n=>Iv n)[j]? = some (Iv (jz a b i j)):=by
 rw [List.getElem?_map,qzu a b i h];rfl
theorem q8t (a b:List (List Fld)) (i:Nat) {n j k:Nat} (h:k<j):((yi a b i n j).map fun n=>Iv n)[k]? = some (Iv (jz a b i k)):=by
 rw [List.getElem?_map,q8u a b i h];rfl
theorem qvg (a b:List (List Fld)) (i:Nat) {n j:Nat} (h:j≤n):((yi a b i n j).map fun n=>Iv n).length=n:=by rw [List.length_map,q8v a b i h]
theorem qlj {R:List (List Fld)} {k:Nat} (h:k<R.length):(R.map zl)[k]? = some (zl R[k]):=by rw [List.getElem?_map,List.getElem?_eq_getElem h];rfl
theorem qd6 (a b:List (List Fld)) (i j:Nat):0≤jz a b i j∧jz a b i j≤(i:Int)+j:=by
 have:=q2k a b i j;unfold jz;omega
theorem ze6 (a b:List (List Fld)) (i j:Nat) (hi:i≤a.length) (hj:j≤b.length) (ha:a.length<1000000) (hb:b.length<1000000) (hf:∀ r∈a,r.length<1000000):ki E 183 [.bx 0 0,.i i,.i j] 3 (hpF (tblH a b i j)) ⟨.i (jz a b i j),j5 (tblH a b i j),tblH a b i j++vd (tblH a b i j),3⟩:=by
 refine wl [.bx 0 0,.i i,.i j] (tblH a b i j) 3 (.i (jz a b i j)) (tblH a b i j) 3 Tryz.func183 rfl rfl rfl rfl fun S F ρ=>?_
 cases i with
 |zero=>
  rw [zd8];apply qf [];repeat' (first|apply And.intro|(intro h;try exact cDd)|exact cSd|apply qd []|refine exr ?_|refine qk ?_)
  all_goals first|rfl|assumption|(simp;done)
 |succ i=>
  cases j with
  |zero=>
   rw [qs4];apply qf [];repeat' (first|apply And.intro|(intro h;try exact cDd)|exact cSd|apply qd []|refine exr ?_|refine qk ?_)
   all_goals first|rfl|assumption|(simp;done)
  |succ j=>
   have hx:=qlj (R:=a) (k:=i) (by omega);have hy:=qlj (R:=b) (k:=j) (by omega);have hs:=fun st=>q2n (a[i]'(by omega)) (b[j]'(by omega)) st (hf _ (List.getElem_mem _));have cn:=q67 a b (show i<i+1 by omega) [.tp 2];have hr2:=quc a b (i+1) (.tp 2);have hl:=qfz a b (i+1);have g1:=qh8 a b i (n:=b.length+1) (j:=j) (by omega);have g2:=qh8 a b i (n:=b.length+1) (j:=j+1) (by omega);have g3:=q8t a b (i+1) (n:=b.length+1) (j:=j+1) (k:=j) (by omega);have gl:=qvg a b (i+1) (n:=b.length+1) (j:=j+1) (by omega);have p1:=qd6 a b i j;have p2:=qd6 a b i (j+1);have p3:=qd6 a b (i+1) j;have s4:=@q4e _ _ a b i j;have i6:=@q0y _ _ a b i j;have ei:a[i]? = some (a[i]'(by omega)):=List.getElem?_eq_getElem (by omega);have ej:b[j]? = some (b[j]'(by omega)):=List.getElem?_eq_getElem (by omega);rw [ei,ej,Option.some.injEq] at s4 i6;generalize a[i]'(by omega)=x at *;generalize b[j]'(by omega)=y at *;by_cases tj:x=y
   ·rw [decide_eq_true tj] at hs
    rw [s4 tj];apply qf [];repeat' (first|apply And.intro|(intro h;try exact cDd)|(refine Exists.intro (i) ⟨by omega,_,hx,?_⟩)|(refine Exists.intro (j) ⟨by omega,_,hy,?_⟩)|(refine Exists.intro (j) ⟨by omega,_,g1,?_⟩)|exact⟨Tryz.call216⟩|refine cpe hs ?_|(refine qja (i:=i) rfl rfl rfl (ix64 (by omega)) rfl rfl (by omega) ?_)|(refine qjb (i:=i) rfl rfl rfl rfl cn rfl ?_)|exact cSd|apply qd []|refine exr ?_|refine qk ?_)
    all_goals first|rfl|assumption|(simp;done)
   ·rw [decide_eq_false tj] at hs
    rw [i6 tj];apply qf [];repeat' (first|apply And.intro|(intro h;try exact cDd)|(refine Exists.intro (i) ⟨by omega,_,hx,?_⟩)|(refine Exists.intro (j) ⟨by omega,_,hy,?_⟩)|(refine Exists.intro (j) ⟨by omega,_,g1,?_⟩)|(refine Exists.intro ((j+1)) ⟨by omega,_,g2,?_⟩)|exact⟨Tryz.call216⟩|refine cpe hs ?_|(refine qja (i:=i) rfl rfl rfl (ix64 (by omega)) rfl rfl (by omega) ?_)|(refine qjb (i:=i) rfl rfl rfl rfl cn rfl ?_)|(refine qja (i:=i+1) rfl rfl rfl (ix64 (by omega)) rfl rfl (by simp only [List.length_cons,List.length_nil];omega) ?_)|(refine qjb (i:=i+1) rfl rfl rfl rfl hr2 rfl ?_)|(refine qdv (i:=j) rfl rfl rfl (ix64 (by omega)) rfl rfl (by omega) ?_)|(refine qh7 (i:=j) (j:=0) rfl rfl rfl rfl g3 rfl rfl ?_)|(refine zfg rfl rfl rfl rfl rfl rfl ?_)|exact cSd|apply qd []|refine exr ?_|refine qk ?_)
    all_goals first|rfl|assumption|(simp;done)|omega
theorem q4f (a b:List (List Fld)) (i:Nat):qax a b (i+1)=qax a b i++[qfq (rowF a b i (b.length+1))]:=by
 unfold qax;rw [q10,List.map_append];rfl
@[reducible] def tblA (a b : List (List Fld)) : AV := .pp [xj a, xj b, .sl 1 (qax a b (a.length + 1)) none]
theorem zc1 (a b:List (List Fld)):Pure (tblA a b):=qtj fun x hx=>by
 simp only [List.mem_cons,List.not_mem_nil,or_false] at hx;rcases hx with rfl|rfl|rfl
 ·exact qg7 _
 ·exact qg7 _
 ·refine qb7 fun x hx=>?_
  obtain⟨f,_,rfl⟩:=List.mem_map.1 hx;intro y hy;simp only [AV.cells,List.mem_singleton] at hy;subst hy;exact qex _
set_option maxHeartbeats 2000000 in
theorem zcz (a b:List (List Fld)) (st:List AObj) (ha:a.length<1000000) (hb:b.length<1000000) (hf:∀ r∈a,r.length<1000000):qn E 160 [xj a,xj b] st fun r st'=>r=tblA a b∧st'=st:=by
 refine qld [.a (xj a),.a (xj b)] (zc1 a b) Tryz.func160 rfl rfl (fun _=>rfl) rfl fun S0=>?_;have hma:(a.map zl).length=a.length:=by simp
 have hmb:(b.map zl).length=b.length:=by simp
 apply qf [11];repeat' (first|apply And.intro|(intro h;try exact cDd)|exact cSd|apply qd [11]|refine exr ?_|refine qk ?_)
 refine ke (X:=Nat) (fun i=>⟨[(1,.a (xj b)),(5,.bx 0 0),(14,.i (a.length+1)),(15,.i i)],[(0,some (.cells 257 [.a (xj a),.a (xj b),.tp 1])),(1,some (.rows 111 (qax a b i) []))],2⟩) (fun i=>i≤a.length+1) (fun i=>a.length+1 - i) 0 (by omega) ?_ ?_
 ·skip
  repeat' (first|apply And.intro|(intro h;try exact cDd)|exact cSd|apply qd []|refine exr ?_|refine qk ?_)
  all_goals first|rfl|(simp [SV.evs,SV.rens,SV.ren,SV.ev];done)
 ·rintro i hi
  have cq:=qfz a b i;have hcn:=quc a b i (.tp 2);have i9:((List.replicate (b.length+1) (Value.int .i64 0)).map AV.v)=(yi a b i (b.length+1) 0).map fun n=>Iv n:=by rw [q5e];simp
  by_cases dk:i<a.length+1
  ·apply qf []
   repeat' (first|apply And.intro|(intro h;try exact cDd)|apply q9f|(refine locX (zbw (n:=b.length) rfl (fun _=>congrArg (fun x:Int=>Iv x) (by omega)) rfl (fun _=>congrArg (fun x:Int=>Iv x) (by omega)) rfl rfl rfl rfl rfl rfl (show 8 * (b.length+1)≤281474976710656 by omega) (by omega) ?_))|(refine locX (q5q rfl rfl rfl rfl rfl rfl ?_))|(refine locX (q1t rfl rfl rfl rfl rfl (by simp) rfl rfl rfl rfl (by simp only [List.length_cons,List.length_nil];omega) ?_))|(refine locK ?_)|exact cSd|apply qd []|refine exr ?_|refine qk ?_)
   refine ke (X:=Nat) (fun j=>⟨[(1,.a (xj b)),(5,.bx 0 0),(6,.i i),(14,.i (a.length+1)),(15,.i i),(26,.tp 2),(33,.i (b.length+1)),(34,.i j)],tblH a b i j,3⟩) (fun j=>j≤b.length+1) (fun j=>b.length+1 - j) 0 (by omega) ?_ ?_
   ·skip
    repeat' (first|apply And.intro|(intro h;try exact cDd)|exact cSd|apply qd []|refine exr ?_|refine qk ?_)
    all_goals first|rfl|(rw [i9];done)|(simp [SV.evs,SV.rens,SV.ren,SV.ev];done)
   ·rintro j hj
    have s0:=qvg a b i (n:=b.length+1) (j:=j) (by omega);by_cases hjn:j<b.length+1
    ·have d5:=ze6 a b i j (by omega) (by omega) ha hb hf
     have hz:((yi a b i (b.length+1) j).map fun n=>Iv n)[j]? = some (Iv 0):=by
      unfold yi;rw [List.getElem?_map,List.getElem?_append_right (by rw [qfg];omega),qfg,Nat.sub_self,List.getElem?_replicate,if_pos (by omega)];rfl
     have hs:((yi a b i (b.length+1) j).map fun n=>Iv n).set j (Iv (jz a b i j))=(yi a b i (b.length+1) (j+1)).map fun n=>Iv n:=by
      rw [← q8w a b i hjn,List.map_set]
     apply qf [];repeat' (first|apply And.intro|(intro h;try exact cDd)|(refine qja (i:=i) rfl rfl rfl rfl rfl rfl (by simp only [List.length_cons,List.length_nil];omega) ?_)|(refine qjb (i:=i) rfl rfl rfl rfl hcn rfl ?_)|exact⟨Tryz.call183⟩|(refine Exists.intro _ ⟨zd5 d5 ⟨rfl,rfl,rfl,trivial⟩,?_⟩)|(refine qdv (i:=j) rfl rfl rfl rfl rfl rfl (by omega) ?_)|(refine qi4 (i:=j) (j:=0) (z:=Iv 0) (z':=Iv (jz a b i j)) (u:=Iv (jz a b i j)) rfl rfl (fun _=>rfl) rfl rfl rfl hz rfl rfl ?_)|(refine Exists.intro (j+1) ⟨by omega,by omega,?_⟩)|exact cSd|apply qd []|refine exr ?_|refine qk ?_)
     all_goals first|rfl|(rw [hs];done)|(simp [SV.evs,SV.rens,SV.ren,SV.ev];done)
    ·have hjn:j=b.length+1:=by omega
     subst hjn
     have b8:((yi a b i (b.length+1) (b.length+1)).map fun n=>Iv n)≠[]:=fun h=>by
      rw [h] at s0;simp at s0
     have hsn:qax a b (i+1)=qax a b i++[.sl 1 ((yi a b i (b.length+1) (b.length+1)).map fun n=>Iv n) none]:=by rw [q4f,q5d]
     refine zcq (b:=1) (r:=2) rfl rfl b8 ?_;apply qf [];repeat' (first|apply And.intro|(intro h;try exact cDd)|(refine Exists.intro (i+1) ⟨by omega,by omega,?_⟩)|exact cSd|apply qd []|refine exr ?_|refine qk ?_)
     all_goals first|rfl|(rw [hsn];done)|(simp [SV.evs,SV.rens,SV.ren,SV.ev];done)
  ·have dk:i=a.length+1:=by omega
   subst dk;refine q1u (b:=1) rfl ?_;apply qf [];repeat' (first|apply And.intro|(intro h;try exact cDd)|exact cSd|apply qd []|refine exr ?_|refine qk ?_)
set_option maxHeartbeats 4000000 in
theorem zhk (a b:List (List Fld)) (i j:Nat) (st:List AObj) (h0:¬ (i=0∧j=0)) (hi:i≤a.length) (hj:j≤b.length) (ha:a.length<1000000) (hb:b.length<1000000) (hf:∀ r∈a,r.length<1000000):qn E 184 [tblA a b,Iv i,Iv j] st fun r st'=>r=Iv (xc a b i j)∧st'=st:=by
 refine zt [.a (tblA a b),.i i,.i j] (q8 _) Tryz.func184 rfl rfl (fun _=>rfl) rfl fun S0=>?_;rw [← zbg];have cm:=qml a b (show i<a.length+1 by omega);have g0:=qh8 a b i (n:=b.length+1) (j:=j) (by omega);have p0:=qd6 a b i j
 cases i with
 |zero=>
  have hn:qi0 0 j (decide (a[0 - 1]? = b[j - 1]?)) (jz a b (0 - 1) (j - 1)) (jz a b (0 - 1) j) (jz a b 0 j)=4:=by simp [qi0]
  rw [hn];apply qf [];repeat' (first|apply And.intro|(intro h;try exact cDd)|(refine Exists.intro (0) ⟨by omega,_,cm,?_⟩)|(refine Exists.intro (j) ⟨by omega,_,g0,?_⟩)|exact cSd|apply qd []|refine exr ?_|refine qk ?_)
  all_goals first|rfl|(simp;done)
 |succ i=>
  simp only [Nat.add_sub_cancel];have cn:=qml a b (show i<a.length+1 by omega);have g1:=qh8 a b i (n:=b.length+1) (j:=j) (by omega);have p1:=qd6 a b i j
  cases j with
  |zero=>
   have e1:jz a b (i+1) 0=jz a b i 0+1:=by rw [qs4,qs4];omega
   have hn:qi0 (i+1) 0 (decide (a[i]? = b[0 - 1]?)) (jz a b i (0 - 1)) (jz a b i 0) (jz a b (i+1) 0)=3:=by
    unfold qi0;rw [if_neg (by omega),if_neg (by omega),if_pos ⟨by omega,by omega⟩]
   rw [hn];generalize jz a b (i+1) 0=c0 at *;generalize jz a b i 0=c1 at *;apply qf [];repeat' (first|apply And.intro|(intro h;try exact cDd)|(refine Exists.intro ((i+1)) ⟨by omega,_,cm,?_⟩)|(refine Exists.intro (i) ⟨by omega,_,cn,?_⟩)|(refine Exists.intro (0) ⟨by omega,_,g0,?_⟩)|(refine Exists.intro (0) ⟨by omega,_,g1,?_⟩)|exact cSd|apply qd []|refine exr ?_|refine qk ?_)
   all_goals first|rfl|(simp;done)|omega
  |succ j=>
   simp only [Nat.add_sub_cancel];have hx:=qlj (R:=a) (k:=i) (by omega);have hy:=qlj (R:=b) (k:=j) (by omega);have hs:=fun st=>q2n (a[i]'(by omega)) (b[j]'(by omega)) st (hf _ (List.getElem_mem _));have g2:=qh8 a b i (n:=b.length+1) (j:=j) (by omega);have p2:=qd6 a b i j;have ei:a[i]? = some (a[i]'(by omega)):=List.getElem?_eq_getElem (by omega);have ej:b[j]? = some (b[j]'(by omega)):=List.getElem?_eq_getElem (by omega);rw [ei,ej];simp only [Option.some.injEq];generalize a[i]'(by omega)=x at *;generalize b[j]'(by omega)=y at *;generalize jz a b (i+1) (j+1)=c0 at *;generalize jz a b i (j+1)=c1 at *;generalize jz a b i j=c2 at *
   have hl:∀ q:Bool,qi0 (i+1) (j+1) q c2 c1 c0=if q=true∧c2=c0 then 1 else if c2=c0 - 1 then 2 else if c1=c0 - 1 then 3 else 4:=fun q=>by
    unfold qi0;simp
   rw [hl];by_cases tj:x=y
   ·rw [decide_eq_true tj] at hs ⊢
    simp only [true_and];by_cases h1:c2=c0
    ·rw [if_pos h1]
     apply qf [];repeat' (first|apply And.intro|(intro h;try exact cDd)|(refine Exists.intro ((i+1)) ⟨by omega,_,cm,?_⟩)|(refine Exists.intro (i) ⟨by omega,_,cn,?_⟩)|(refine Exists.intro ((j+1)) ⟨by omega,_,g0,?_⟩)|(refine Exists.intro ((j+1)) ⟨by omega,_,g1,?_⟩)|(refine Exists.intro (j) ⟨by omega,_,g2,?_⟩)|(refine Exists.intro (i) ⟨by omega,_,hx,?_⟩)|(refine Exists.intro (j) ⟨by omega,_,hy,?_⟩)|exact⟨Tryz.call216⟩|refine cpe hs ?_|exact cSd|apply qd []|refine exr ?_|refine qk ?_)
     all_goals first|rfl|(simp;done)|omega
    ·rw [if_neg h1]
     by_cases h2:c2=c0 - 1
     ·rw [if_pos h2]
      apply qf [];repeat' (first|apply And.intro|(intro h;try exact cDd)|(refine Exists.intro ((i+1)) ⟨by omega,_,cm,?_⟩)|(refine Exists.intro (i) ⟨by omega,_,cn,?_⟩)|(refine Exists.intro ((j+1)) ⟨by omega,_,g0,?_⟩)|(refine Exists.intro ((j+1)) ⟨by omega,_,g1,?_⟩)|(refine Exists.intro (j) ⟨by omega,_,g2,?_⟩)|(refine Exists.intro (i) ⟨by omega,_,hx,?_⟩)|(refine Exists.intro (j) ⟨by omega,_,hy,?_⟩)|exact⟨Tryz.call216⟩|refine cpe hs ?_|exact cSd|apply qd []|refine exr ?_|refine qk ?_)
      all_goals first|rfl|(simp;done)|omega
     ·rw [if_neg h2]
      by_cases h3:c1=c0 - 1
      ·rw [if_pos h3]
       apply qf [];repeat' (first|apply And.intro|(intro h;try exact cDd)|(refine Exists.intro ((i+1)) ⟨by omega,_,cm,?_⟩)|(refine Exists.intro (i) ⟨by omega,_,cn,?_⟩)|(refine Exists.intro ((j+1)) ⟨by omega,_,g0,?_⟩)|(refine Exists.intro ((j+1)) ⟨by omega,_,g1,?_⟩)|(refine Exists.intro (j) ⟨by omega,_,g2,?_⟩)|(refine Exists.intro (i) ⟨by omega,_,hx,?_⟩)|(refine Exists.intro (j) ⟨by omega,_,hy,?_⟩)|exact⟨Tryz.call216⟩|refine cpe hs ?_|exact cSd|apply qd []|refine exr ?_|refine qk ?_)
       all_goals first|rfl|(simp;done)|omega
      ·rw [if_neg h3]
       apply qf [];repeat' (first|apply And.intro|(intro h;try exact cDd)|(refine Exists.intro ((i+1)) ⟨by omega,_,cm,?_⟩)|(refine Exists.intro (i) ⟨by omega,_,cn,?_⟩)|(refine Exists.intro ((j+1)) ⟨by omega,_,g0,?_⟩)|(refine Exists.intro ((j+1)) ⟨by omega,_,g1,?_⟩)|(refine Exists.intro (j) ⟨by omega,_,g2,?_⟩)|(refine Exists.intro (i) ⟨by omega,_,hx,?_⟩)|(refine Exists.intro (j) ⟨by omega,_,hy,?_⟩)|exact⟨Tryz.call216⟩|refine cpe hs ?_|exact cSd|apply qd []|refine exr ?_|refine qk ?_)
       all_goals first|rfl|(simp;done)|omega
   ·rw [decide_eq_false tj] at hs ⊢
    rw [if_neg (by simp)];by_cases h2:c2=c0 - 1
    ·rw [if_pos h2]
     apply qf [];repeat' (first|apply And.intro|(intro h;try exact cDd)|(refine Exists.intro ((i+1)) ⟨by omega,_,cm,?_⟩)|(refine Exists.intro (i) ⟨by omega,_,cn,?_⟩)|(refine Exists.intro ((j+1)) ⟨by omega,_,g0,?_⟩)|(refine Exists.intro ((j+1)) ⟨by omega,_,g1,?_⟩)|(refine Exists.intro (j) ⟨by omega,_,g2,?_⟩)|(refine Exists.intro (i) ⟨by omega,_,hx,?_⟩)|(refine Exists.intro (j) ⟨by omega,_,hy,?_⟩)|exact⟨Tryz.call216⟩|refine cpe hs ?_|exact cSd|apply qd []|refine exr ?_|refine qk ?_)
     all_goals first|rfl|(simp;done)|omega
    ·rw [if_neg h2]
     by_cases h3:c1=c0 - 1
     ·rw [if_pos h3]
      apply qf [];repeat' (first|apply And.intro|(intro h;try exact cDd)|(refine Exists.intro ((i+1)) ⟨by omega,_,cm,?_⟩)|(refine Exists.intro (i) ⟨by omega,_,cn,?_⟩)|(refine Exists.intro ((j+1)) ⟨by omega,_,g0,?_⟩)|(refine Exists.intro ((j+1)) ⟨by omega,_,g1,?_⟩)|(refine Exists.intro (j) ⟨by omega,_,g2,?_⟩)|(refine Exists.intro (i) ⟨by omega,_,hx,?_⟩)|(refine Exists.intro (j) ⟨by omega,_,hy,?_⟩)|exact⟨Tryz.call216⟩|refine cpe hs ?_|exact cSd|apply qd []|refine exr ?_|refine qk ?_)
      all_goals first|rfl|(simp;done)|omega
     ·rw [if_neg h3]
      apply qf [];repeat' (first|apply And.intro|(intro h;try exact cDd)|(refine Exists.intro ((i+1)) ⟨by omega,_,cm,?_⟩)|(refine Exists.intro (i) ⟨by omega,_,cn,?_⟩)|(refine Exists.intro ((j+1)) ⟨by omega,_,g0,?_⟩)|(refine Exists.intro ((j+1)) ⟨by omega,_,g1,?_⟩)|(refine Exists.intro (j) ⟨by omega,_,g2,?_⟩)|(refine Exists.intro (i) ⟨by omega,_,hx,?_⟩)|(refine Exists.intro (j) ⟨by omega,_,hy,?_⟩)|exact⟨Tryz.call216⟩|refine cpe hs ?_|exact cSd|apply qd []|refine exr ?_|refine qk ?_)
      all_goals first|rfl|(simp;done)|omega
end Go.Proofs.YtapblfabkbdgcaaGreatDoor
