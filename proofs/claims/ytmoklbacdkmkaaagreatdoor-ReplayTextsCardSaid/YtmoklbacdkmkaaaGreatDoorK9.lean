/- Contracts and plain facts that the closing text leans on (part 9). No condition of their own beyond those that each states. -/
import Derived.Test.YtmoklbacdkmkaaaGreatDoorK8
set_option maxRecDepth 100000
set_option linter.unusedVariables false
set_option linter.unusedSimpArgs false
namespace Go.Proofs.YtmoklbacdkmkaaaGreatDoor
open Go Go.Av Go.RowKit Go.Proofs Go.Pl
def xd:Nat→List qs→q9→List Int→ErrV×q9×List Int
 | _,[],l,ids=>(.no,l,ids)
 |k,x::r,l,ids=>if (oneF l x).2.1 = .no then xd (k+1) r (oneF l x).2.2 (if 0<(oneF l x).1 then ids++[(oneF l x).1] else ids) else (.at' k (oneF l x).2.1.code,l,ids)
def doF (l:q9) (b:List qs):ErrV×q9×List Int:=if eErr b = .no then xd 0 b l [] else (eErr b,l,[])
def doA (r:ErrV×q9×List Int):AV:=match r.1 with
 | .no=>.tu [vw r.2.1,qai r.2.2,errA .no]
 |e=>.tu [.v (.pointer none),qai [],errA e]
theorem zbf (r:ErrV×q9×List Int):Pure (doA r):=by
 unfold doA
 split
 ·exact qal (qh2 _) (qcq _) (vn _)
 ·exact qal (qr _) (qcq _) (vn _)
theorem qoh {l:q9} {x:qs} (h:(oneF l x).2.1≠.no):(oneF l x).2.1.code≠0:=by
 have key:∀ fs:List Fld,jx fs≠.no→(jx fs).code≠0:=fun fs h h'=>h ((qiq fs).1 h')
 unfold oneF at h ⊢
 split
 ·rename_i h1
  rw [if_pos h1] at h
  unfold y9 at h ⊢
  split
  ·exact (by decide:(ErrV.num 7).code≠0)
  ·rename_i h2
   rw [if_neg h2] at h
   split
   ·rename_i h3
    rw [if_pos h3] at h
    exact absurd rfl h
   ·exact key _ (by assumption)
 ·rename_i h1
  rw [if_neg h1] at h
  split
  ·rename_i h2
   rw [if_pos h2] at h
   unfold delF at h ⊢
   split
   ·exact (by decide:(ErrV.num 7).code≠0)
   ·rename_i h3
    rw [if_neg h3] at h
    exact absurd rfl h
  ·rename_i h2
   rw [if_neg h2] at h
   unfold insF at h ⊢
   split
   ·exact (by decide:(ErrV.num 7).code≠0)
   ·rename_i h3
    rw [if_neg h3] at h
    split
    ·rename_i h4
     rw [if_pos h4] at h
     split
     ·exact (by decide:(ErrV.num 11).code≠0)
     ·rename_i h5
      rw [if_neg h5] at h
      exact absurd rfl h
    ·exact key _ (by assumption)
theorem zgh (n:Nat) (l:q9) (x:qs) (hB:LB n l) (hK:KeyB x.fields) (hl:x.fields.length<1000000):v4 E 73 [.bx 0 0,.a (jb x)] 2 (hpF (lstH 1 l)) ⟨.tu [.i (oneF l x).1,.a (errA (oneF l x).2.1)],vv (lstH 1 l),lstH 2 (oneF l x).2.2++wj (lstH 1 l),3⟩:=by
 refine x8 [.bx 0 0,.a (jb x)] (lstH 1 l) 2 (.tu [.i (oneF l x).1,.a (errA (oneF l x).2.1)]) (lstH 2 (oneF l x).2.2) 3 Tryz.func73 rfl rfl rfl rfl fun S F ρ=>?_
 unfold oneF
 by_cases h1:x.kind=1
 ·rw [if_pos h1]
  have hc:=ze5 n l x.id x.fields hB hK hl
  generalize y9 l x.id x.fields=r at hc
  apply qd []
  repeat' (first|apply And.intro|(intro h;try exact cDd)|exact⟨Tryz.call131⟩|(refine jv hc ?_)|exact cSd|apply qb []|refine exr ?_|refine qh ?_)
 ·rw [if_neg h1]
  by_cases h2:x.kind=2
  ·rw [if_pos h2]
   have hc:=zgp n l x.id hB
   generalize delF l x.id=r at hc
   apply qd []
   repeat' (first|apply And.intro|(intro h;try exact cDd)|exact⟨Tryz.call132⟩|(refine jv hc ?_)|exact cSd|apply qb []|refine exr ?_|refine qh ?_)
  ·rw [if_neg h2]
   have hc:=zgt n l x.id x.fields hB hK hl
   generalize insF l x.id x.fields=r at hc
   apply qd []
   repeat' (first|apply And.intro|(intro h;try exact cDd)|exact⟨Tryz.call133⟩|(refine jv hc ?_)|exact cSd|apply qb []|refine exr ?_|refine qh ?_)
theorem zdi (n:Nat) (l:q9) (b:List qs) (st:List AObj) (hB:LB n l) (hn:n+40<900000) (hE:∀ x∈b,EdB x) (hl:b.length<1000000):qo E 27 [vw l,jf b] st fun r st'=>r=doA (doF l b)∧st'=st:=by
 refine qq7 [.a (vw l),.a (jf b)] (zbf _) Tryz.func27 rfl rfl (fun _=>rfl) rfl fun S0=>?_
 have hck:=fun st=>qlv b st _ rfl hE (by omega)
 unfold doF
 cases he:eErr b with
 |num m=>
  rw [he] at hck
  rw [if_neg (by simp)]
  apply qd []
  repeat' (first|apply And.intro|(intro h;try exact cDd)|exact⟨Tryz.call71⟩|refine cpe hck ?_|exact cSd|apply qb []|refine exr ?_|refine qh ?_)
 |at' a m=>
  rw [he] at hck
  rw [if_neg (by simp)]
  apply qd []
  repeat' (first|apply And.intro|(intro h;try exact cDd)|exact⟨Tryz.call71⟩|refine cpe hck ?_|exact cSd|apply qb []|refine exr ?_|refine qh ?_)
 |no=>
  rw [he] at hck
  rw [if_pos rfl]
  obtain⟨hb1,hb40,hg⟩:=qc0 he
  have hcp:=zez l (by have:=hB.len;omega)
  apply qd []
  repeat' (first|apply And.intro|(intro h;try exact cDd)|exact⟨Tryz.call71⟩|refine cpe hck ?_|exact⟨Tryz.call72⟩|(refine jv hcp ?_)|exact cSd|apply qb []|refine exr ?_|refine qh ?_)
  refine ji (X:=Nat×q9×List Int) (fun (k,q,ids)=>⟨[(8,.bx 0 0),(9,.tp 2),(21,.a (jf b)),(22,.i b.length),(23,.i k)],[(0,some (.cells 112 [.tp 1,.i q.next,.i q.many])),(1,some (.own 4 139 (q.ents.map entA))),(2,some (.tip 1 3 (ids.map fun x=>Iv x)))],3⟩)
   (fun (k,q,ids)=>k≤b.length∧LB (n+k) q∧ids.length≤k∧xd k (b.drop k) q ids=xd 0 b l []) (fun (k,q,ids)=>b.length - k) (0,l,[]) ⟨by omega,hB,by simp,rfl⟩ ?_ ?_
  ·skip
   repeat' (first|apply And.intro|(intro h;try exact cDd)|exact cSd|apply qb []|refine exr ?_|refine qh ?_)
   all_goals (simp;done)
  ·rintro⟨k,q,ids⟩ ⟨hk,hq,hil,hrun⟩
   by_cases hkn:k<b.length
   ·have hx:b[k]? = some b[k]:=List.getElem?_eq_getElem hkn
    have hxm:(b.map jb)[k]? = some (jb b[k]):=by rw [List.getElem?_map,hx];rfl
    have hxE:=hE b[k] (List.getElem_mem hkn)
    have hxf:=(qih (hg b[k] (List.getElem_mem hkn))).1
    rw [List.drop_eq_getElem_cons hkn,xd] at hrun
    have hidl:(ids.map fun x=>Iv x).length=ids.length:=by simp
    generalize b[k]=x at hx hxm hxE hxf hrun
    have hon:=zgh (n+k) q x hq hxE.keys (by omega)
    have hlb:=qo7 hq (by omega) x
    have hcd:=fun h=>qoh (l:=q) (x:=x) h
    generalize oneF q x=o at hon hlb hcd hrun
    obtain⟨id,e,q'⟩:=o
    dsimp only at hon hlb hcd hrun
    cases e with
    |no=>
     rw [if_pos rfl] at hrun
     by_cases h0:0<id
     ·rw [if_pos h0] at hrun
      apply qd []
      repeat' (first|apply And.intro|(intro h;try exact cDd)|(refine Exists.intro (k) ⟨by omega,_,hxm,?_⟩)|exact⟨Tryz.call73⟩|(refine jv hon ?_)|(refine Exists.intro (k+1,q',ids++[id]) ⟨⟨by omega,hlb,by simp;omega,hrun⟩,by simp only;omega,?_⟩)|exact cSd|apply qb []|refine exr ?_|refine qh ?_)
      all_goals first|(simp;done)|(simp;omega)
     ·rw [if_neg h0] at hrun
      apply qd []
      repeat' (first|apply And.intro|(intro h;try exact cDd)|(refine Exists.intro (k) ⟨by omega,_,hxm,?_⟩)|exact⟨Tryz.call73⟩|(refine jv hon ?_)|(refine Exists.intro (k+1,q',ids) ⟨⟨by omega,hlb,by first|omega|(simp only;omega),hrun⟩,by simp only;omega,?_⟩)|exact cSd|apply qb []|refine exr ?_|refine qh ?_)
      all_goals first|(simp;done)|(simp;omega)
    |num m=>
     rw [if_neg (by simp)] at hrun
     rw [← hrun]
     have hft:=fun st=>qqp k (.num m) st (hcd (by simp))
     apply qd []
     repeat' (first|apply And.intro|(intro h;try exact cDd)|(refine Exists.intro (k) ⟨by omega,_,hxm,?_⟩)|exact⟨Tryz.call73⟩|(refine jv hon ?_)|exact⟨Tryz.call74⟩|refine cpe hft ?_|exact cSd|apply qb []|refine exr ?_|refine qh ?_)
    |at' a m=>
     rw [if_neg (by simp)] at hrun
     rw [← hrun]
     have hft:=fun st=>qqp k (.at' a m) st (hcd (by simp))
     apply qd []
     repeat' (first|apply And.intro|(intro h;try exact cDd)|(refine Exists.intro (k) ⟨by omega,_,hxm,?_⟩)|exact⟨Tryz.call73⟩|(refine jv hon ?_)|exact⟨Tryz.call74⟩|refine cpe hft ?_|exact cSd|apply qb []|refine exr ?_|refine qh ?_)
   ·have hkn:k=b.length:=by omega
    subst hkn
    rw [List.drop_length,xd] at hrun
    rw [← hrun]
    apply qd []
    repeat' (first|apply And.intro|(intro h;try exact cDd)|exact cSd|apply qb []|refine exr ?_|refine qh ?_)
structure RunV where
 l:q9
 given:List (List Int)
 touched:List Int
def vb (b:List qs):List Int:=(b.filter fun x=>decide (x.kind≠3)).map fun x=>x.id
def qa3 (r:RunV) (b:List qs):RunV:=⟨(doF r.l b).2.1,r.given++[(doF r.l b).2.2],r.touched++vb b⟩
def kq:List (List qs)→RunV→ErrV×RunV
 | [],r=>(.no,r)
 |b::q,r=>if (doF r.l b).1 = .no then kq q (qa3 r b) else (.at' r.given.length 10,r)
def ki (base:qa) (bs:List (List qs)):ErrV×RunV:=if jr base = .no then kq bs ⟨ofF (itsE base),[],[]⟩ else (jr base,⟨ofF [],[],[]⟩)
@[reducible] def qzq (g : List (List Int)) : AV := .sl 1 (g.map qai) none
@[reducible] def runA (r : RunV) : AV := .pp [vw r.l, qzq r.given, qai r.touched]
def qx1 (r:ErrV×RunV):AV:=match r.1 with
 | .no=>.tu [runA r.2,errA .no]
 |e=>.tu [.v (.pointer none),errA e]
theorem qp1 (g:List (List Int)):Pure (qzq g):=qa9 fun x hx=>by
 obtain⟨f,_,rfl⟩:=List.mem_map.1 hx
 intro y hy
 simp only [AV.cells,List.mem_cons,List.not_mem_nil,or_false] at hy
 rw [hy]
 exact qcq f
theorem q6b (r:ErrV×RunV):Pure (qx1 r):=by
 unfold qx1
 split
 ·exact kf (quz fun x hx=>by
   simp only [List.mem_cons,List.not_mem_nil,or_false] at hx
   rcases hx with rfl|rfl|rfl
   ·exact qh2 _
   ·exact qp1 _
   ·exact qcq _) (vn _)
 ·exact kf (qr _) (vn _)
theorem qe8 {n m:Nat} {l:q9} (h:LB n l) (hm:n≤m) (hs:m<900000):LB m l:=by
 have h1:=h.len;have h2:=h.nx0;have h3:=h.nx1;have h4:=h.mn0;have h5:=h.mn1
 exact⟨hs,by omega,h2,by omega,by omega,by omega⟩
theorem qv1:∀ (b:List qs) (k n:Nat) (l:q9) (ids:List Int),LB n l→n+b.length<900000→LB (n+b.length) (xd k b l ids).2.1
 | [],k,n,l,ids,h,_=>h
 |x::r,k,n,l,ids,h,hs=>by
  simp only [List.length_cons] at hs ⊢
  unfold xd
  split
  ·have:=qv1 r (k+1) (n+1) (oneF l x).2.2 (if 0<(oneF l x).1 then ids++[(oneF l x).1] else ids) (qo7 h (by omega) x) (by omega)
   rw [show n+(r.length+1)=n+1+r.length by omega]
   exact this
  ·have h1:=h.len;have h2:=h.nx0;have h3:=h.nx1;have h4:=h.mn0;have h5:=h.mn1
   exact⟨by omega,by simp only;omega,h2,by simp only;omega,by simp only;omega,by simp only;omega⟩
theorem qy6 {n:Nat} {l:q9} (h:LB n l) (hs:n+40<900000) (b:List qs):LB (n+40) (doF l b).2.1:=by
 unfold doF
 split
 ·rename_i he
  obtain⟨h1,h2,_⟩:=qc0 he
  exact qe8 (qv1 b 0 n l [] h (by omega)) (by omega) hs
 ·exact qe8 h (by omega) hs
theorem q8u:∀ (its:List jj) (n:Nat) (l:q9),LB n l→n+its.length<900000→LB (n+its.length) (its.foldl qaf l)
 | [],n,l,h,_=>h
 |x::r,n,l,h,hs=>by
  simp only [List.length_cons] at hs ⊢
  rw [List.foldl_cons,show n+(r.length+1)=n+1+r.length by omega]
  refine q8u r (n+1) _ ?_ (by omega)
  have h1:=h.len;have h2:=h.nx0;have h3:=h.nx1;have h4:=h.mn0;have h5:=h.mn1
  unfold qaf
  split
  ·exact⟨by omega,by simp;omega,by simp only;omega,by simp only;omega,by simp only;omega,by simp only;omega⟩
  ·exact⟨by omega,by simp;omega,h2,by simp only;omega,by simp only;omega,by simp only;omega⟩
theorem qk8 (text:qa):LB 300000 (ofF (itsE text)):=by
 have h:=qq0 text
 have:=q8u (itsE text) 0 ⟨[],1,0⟩ ⟨by omega,by simp,by simp,by simp,by simp,by simp⟩ (by omega)
 exact qe8 this (by omega) (by omega)
@[reducible] def runH (a : Nat) (r : RunV) : List (Nat × Option SR) := [(0, some (.cells 134 [.a (vw r.l), .tp a, .tp (a + 1)])), (a, some (.tip 1 24 (r.given.map qai))), (a + 1, some (.tip 1 3 (r.touched.map fun x => Iv x)))]
def BB (b:List qs):Prop:=b.length<1000000∧∀ x∈b,EdB x
theorem zfk (n:Nat) (r:RunV) (b:List qs) (hB:LB n r.l) (hn:n+40<900000) (hg:r.given.length<1000000) (ht:r.touched.length<100000000) (hb:BB b) (hok:(doF r.l b).1 = .no):v4 E 126 [.bx 0 0,.a (jf b)] 3 (hpF (runH 1 r)) ⟨.a (.v .nilIface),vv (runH 1 r),runH 3 (qa3 r b)++wj (runH 1 r),5⟩:=by
 refine x8 [.bx 0 0,.a (jf b)] (runH 1 r) 3 (.a (.v .nilIface)) (runH 3 (qa3 r b)) 5 Tryz.func126 rfl rfl rfl rfl fun S F ρ=>?_
 have hdo:=fun st=>zdi n r.l b st hB hn hb.2 hb.1
 unfold qa3
 generalize doF r.l b=d at hdo hok
 obtain⟨e,l',ids⟩:=d
 simp only at hok
 subst hok
 have hgl:(r.given.map qai).length=r.given.length:=by simp
 have hbl:=hb.1
 apply qd []
 repeat' (first|apply And.intro|(intro h;try exact cDd)|exact⟨Tryz.call27⟩|refine cpe hdo ?_|exact cSd|apply qb []|refine exr ?_|refine qh ?_)
 refine ji (X:=Nat) (fun k=>⟨[(0,.bx 0 0),(45,.a (jf b)),(46,.i b.length),(47,.i k)],[(0,some (.cells 134 [.a (vw l'),.tp 3,.tp 4])),(3,some (.tip 1 24 ((r.given++[ids]).map qai))),(4,some (.tip 1 3 ((r.touched++vb (b.take k)).map fun x=>Iv x)))],5⟩)
  (fun k=>k≤b.length) (fun k=>b.length - k) 0 (by omega) ?_ ?_
 ·skip
  repeat' (first|apply And.intro|(intro h;try exact cDd)|exact cSd|apply qb []|refine exr ?_|refine qh ?_)
  all_goals (simp [vb];done)
 ·rintro k hk
  by_cases hkn:k<b.length
  ·have hx:b[k]? = some b[k]:=List.getElem?_eq_getElem hkn
   have hxm:(b.map jb)[k]? = some (jb b[k]):=by rw [List.getElem?_map,hx];rfl
   have htk:b.take (k+1)=b.take k++[b[k]]:=by rw [List.take_add_one,hx];rfl
   have htl:(vb (b.take k)).length≤k:=by
    unfold vb
    rw [List.length_map]
    exact Nat.le_trans (List.length_filter_le _ _) (by simp;omega)
   generalize b[k]=x at hx hxm htk
   by_cases h3:x.kind=3
   ·have e:vb (b.take (k+1))=vb (b.take k):=by rw [htk];simp [vb,h3]
    apply qd []
    repeat' (first|apply And.intro|(intro h;try exact cDd)|(refine Exists.intro (k) ⟨by omega,_,hxm,?_⟩)|(refine Exists.intro (k+1) ⟨by omega,by omega,?_⟩)|exact cSd|apply qb []|refine exr ?_|refine qh ?_)
    all_goals (rw [e];done)
   ·have e:vb (b.take (k+1))=vb (b.take k)++[x.id]:=by rw [htk];simp [vb,h3]
    apply qd []
    repeat' (first|apply And.intro|(intro h;try exact cDd)|(refine Exists.intro (k) ⟨by omega,_,hxm,?_⟩)|(refine Exists.intro (k+1) ⟨by omega,by omega,?_⟩)|exact cSd|apply qb []|refine exr ?_|refine qh ?_)
    all_goals first|(rw [e];simp;done)|(simp;omega)
  ·have hkn:k=b.length:=by omega
   subst hkn
   rw [List.take_length]
   apply qd []
   repeat' (first|apply And.intro|(intro h;try exact cDd)|exact cSd|apply qb []|refine exr ?_|refine qh ?_)
theorem zc0 (n:Nat) (r:RunV) (b:List qs) (hB:LB n r.l) (hn:n+40<900000) (hg:r.given.length<1000000) (hb:BB b) (hok:(doF r.l b).1≠.no):v4 E 126 [.bx 0 0,.a (jf b)] 3 (hpF (runH 1 r)) ⟨.a (errA (.at' r.given.length 10)),vv (runH 1 r),runH 3 r++wj (runH 1 r),5⟩:=by
 refine x8 [.bx 0 0,.a (jf b)] (runH 1 r) 3 (.a (errA (.at' r.given.length 10))) (runH 3 r) 5 Tryz.func126 rfl rfl rfl rfl fun S F ρ=>?_
 have hdo:=fun st=>zdi n r.l b st hB hn hb.2 hb.1
 have hgl:(r.given.map qai).length=r.given.length:=by simp
 generalize doF r.l b=d at hdo hok
 obtain⟨e,l',ids⟩:=d
 simp only at hok
 cases e with
 |no=>exact absurd rfl hok
 |num m=>
  apply qd []
  repeat' (first|apply And.intro|(intro h;try exact cDd)|exact⟨Tryz.call27⟩|refine cpe hdo ?_|exact cSd|apply qb []|refine exr ?_|refine qh ?_)
  all_goals (rw [hgl];rfl)
 |at' a m=>
  apply qd []
  repeat' (first|apply And.intro|(intro h;try exact cDd)|exact⟨Tryz.call27⟩|refine cpe hdo ?_|exact cSd|apply qb []|refine exr ?_|refine qh ?_)
  all_goals (rw [hgl];rfl)
theorem q4d (base:qa) (bs:List (List qs)) (st:List AObj) (hl:base.length<1000000) (hn:bs.length≤14000) (hb:∀ b∈bs,BB b∧b.length≤5000):qo E 67 [Sv base,qcl bs] st fun r st'=>r=qx1 (ki base bs)∧st'=st:=by
 refine qq7 [.s base,.a (qcl bs)] (q6b _) Tryz.func67 rfl rfl (fun _=>rfl) rfl fun S0=>?_
 have hof:=fun st=>zb2 base st hl
 have hlb:=qk8 base
 unfold ki
 generalize itsE base=its at hof hlb
 cases he:jr base with
 |num m=>
  rw [he] at hof
  rw [if_neg (by simp)]
  apply qd [22]
  repeat' (first|apply And.intro|(intro h;try exact cDd)|exact⟨Tryz.call87⟩|refine cpe hof ?_|exact cSd|apply qb [22]|refine exr ?_|refine qh ?_)
 |at' a m=>
  rw [he] at hof
  rw [if_neg (by simp)]
  apply qd [22]
  repeat' (first|apply And.intro|(intro h;try exact cDd)|exact⟨Tryz.call87⟩|refine cpe hof ?_|exact cSd|apply qb [22]|refine exr ?_|refine qh ?_)
 |no=>
  rw [he] at hof
  rw [if_pos rfl]
  apply qd [22]
  repeat' (first|apply And.intro|(intro h;try exact cDd)|exact⟨Tryz.call87⟩|refine cpe hof ?_|exact cSd|apply qb [22]|refine exr ?_|refine qh ?_)
  refine ji (X:=Nat×RunV) (fun (k,r)=>⟨[(8,.bx 0 0),(23,.a (qcl bs)),(24,.i bs.length),(25,.i k)],[(0,some (.cells 134 [.a (vw r.l),.tp 1,.tp 2])),(1,some (.tip 1 24 (r.given.map qai))),(2,some (.tip 1 3 (r.touched.map fun x=>Iv x)))],3⟩)
   (fun (k,r)=>k≤bs.length∧LB (300000+40 * k) r.l∧r.given.length=k∧r.touched.length≤5000 * k∧kq (bs.drop k) r=kq bs ⟨ofF its,[],[]⟩) (fun (k,r)=>bs.length - k) (0,⟨ofF its,[],[]⟩) ⟨by omega,hlb,rfl,by simp,rfl⟩ ?_ ?_
  ·skip
   repeat' (first|apply And.intro|(intro h;try exact cDd)|exact cSd|apply qb []|refine exr ?_|refine qh ?_)
   all_goals (simp;done)
  ·rintro⟨k,r⟩ ⟨hk,hq,hgl,htl,hrun⟩
   by_cases hkn:k<bs.length
   ·have hx:bs[k]? = some bs[k]:=List.getElem?_eq_getElem hkn
    have hxm:(bs.map jf)[k]? = some (jf bs[k]):=by rw [List.getElem?_map,hx];rfl
    obtain⟨hbb,hb5⟩:=hb bs[k] (List.getElem_mem hkn)
    rw [List.drop_eq_getElem_cons hkn,kq] at hrun
    generalize bs[k]=b at hx hxm hbb hb5 hrun
    have hlb2:=qy6 hq (by omega) b
    by_cases hok:(doF r.l b).1 = .no
    ·rw [if_pos hok] at hrun
     have htk:=zfk (300000+40 * k) r b hq (by omega) (by omega) (by omega) hbb hok
     have hgl2:(qa3 r b).given.length=k+1:=by simp [qa3,hgl]
     have htl2:(qa3 r b).touched.length≤5000 * (k+1):=by
      have:(vb b).length≤b.length:=by
       unfold vb
       rw [List.length_map]
       exact List.length_filter_le _ _
      simp only [qa3,List.length_append]
      omega
     have hlb3:LB (300000+40 * (k+1)) (qa3 r b).l:=qe8 hlb2 (by omega) (by omega)
     generalize qa3 r b=r2 at htk hrun hgl2 htl2 hlb3
     apply qd []
     repeat' (first|apply And.intro|(intro h;try exact cDd)|(refine Exists.intro (k) ⟨by omega,_,hxm,?_⟩)|exact⟨Tryz.call126⟩|(refine jv htk ?_)|(refine Exists.intro (k+1,r2) ⟨⟨by omega,hlb3,hgl2,htl2,hrun⟩,by simp only;omega,?_⟩)|exact cSd|apply qb []|refine exr ?_|refine qh ?_)
    ·rw [if_neg hok] at hrun
     rw [← hrun]
     have htk:=zc0 (300000+40 * k) r b hq (by omega) (by omega) hbb hok
     apply qd []
     repeat' (first|apply And.intro|(intro h;try exact cDd)|(refine Exists.intro (k) ⟨by omega,_,hxm,?_⟩)|exact⟨Tryz.call126⟩|(refine jv htk ?_)|exact cSd|apply qb []|refine exr ?_|refine qh ?_)
   ·have hkn:k=bs.length:=by omega
    subst hkn
    rw [List.drop_length,kq] at hrun
    rw [← hrun]
    apply qd []
    repeat' (first|apply And.intro|(intro h;try exact cDd)|exact cSd|apply qb []|refine exr ?_|refine qh ?_)
structure BkB (b:ve):Prop where
 base:b.base.length<1000000
 len:b.batches.length≤14000
 bat:∀ x∈b.batches,BB x∧x.length≤5000
theorem q9d (b:List qs):9≤(recE b).length:=by
 unfold recE recF qgv
 simp [q8]
 omega
theorem qtk:∀ r:List (List qs),9 * r.length≤(x3 r).length
 | []=>by simp [x3]
 |b::r=>by
  have h1:=qtk r
  have h2:=q9d b
  rw [qd1]
  simp only [List.length_append,List.length_cons]
  omega
theorem qyv {text:qa} {b:ve} (h:qba text b):BkB b:=by
 have h1:=congrArg List.length h.split
 have h2:=h.len
 have h3:=qtk b.batches
 simp only [List.length_append,yx] at h1
 refine⟨by omega,by omega,fun x hx=>?_⟩
 obtain⟨g1,g2,_⟩:=qc0 (h.good x hx).ok
 exact⟨⟨by omega,(h.good x hx).B⟩,by omega⟩
def qga (b:ve) (n:Int):ErrV×RunV:=if n<0∨(b.batches.length:Int)<n then (.num 1,⟨ofF [],[],[]⟩) else ki b.base (b.batches.take n.toNat)
theorem qol (b:ve) (n:Int) (st:List AObj) (hB:BkB b):qo E 23 [yt b,Iv n] st fun r st'=>r=qs2 (qga b n).1 (qga b n).2.l∧st'=st:=by
 refine zm [.a (yt b),.i n] (qkr _ _) Tryz.func23 rfl rfl (fun _=>rfl) rfl fun S0=>?_
 have hbl:=hB.len
 have hml:(b.batches.map jf).length=b.batches.length:=by simp
 unfold qga
 by_cases hn:n<0∨(b.batches.length:Int)<n
 ·rw [if_pos hn]
  apply qd []
  repeat' (first|apply And.intro|(intro h;try exact cDd)|exact cSd|apply qb []|refine exr ?_|refine qh ?_)
 ·rw [if_neg hn]
  obtain⟨k,rfl⟩:∃ k:Nat,n=(k:Int):=⟨n.toNat,by omega⟩
  rw [Int.toNat_natCast]
  have hp:=fun st=>q4d b.base (b.batches.take k) st hB.base (by simp;omega) (fun x hx=>hB.bat x (List.mem_of_mem_take hx))
  unfold qcl at hp
  rw [List.map_take] at hp
  generalize ki b.base (b.batches.take k)=p at hp
  obtain⟨e,r⟩:=p
  cases e with
  |no=>
   apply qd []
   repeat' (first|apply And.intro|(intro h;try exact cDd)|exact⟨Tryz.call67⟩|refine cpe hp ?_|exact cSd|apply qb []|refine exr ?_|refine qh ?_)
  |num m=>
   apply qd []
   repeat' (first|apply And.intro|(intro h;try exact cDd)|exact⟨Tryz.call67⟩|refine cpe hp ?_|exact cSd|apply qb []|refine exr ?_|refine qh ?_)
  |at' a m=>
   apply qd []
   repeat' (first|apply And.intro|(intro h;try exact cDd)|exact⟨Tryz.call67⟩|refine cpe hp ?_|exact cSd|apply qb []|refine exr ?_|refine qh ?_)
theorem zdo (b:ve) (st:List AObj) (hB:BkB b):qo E 24 [yt b] st fun r st'=>r=qs2 (ki b.base b.batches).1 (ki b.base b.batches).2.l∧st'=st:=by
 refine zm [.a (yt b)] (qkr _ _) Tryz.func24 rfl rfl (fun _=>rfl) rfl fun S0=>?_
 have hml:(b.batches.map jf).length=b.batches.length:=by simp
 have e:qga b (((b.batches.map jf).length:Nat):Int)=ki b.base b.batches:=by
  unfold qga
  rw [hml,if_neg (by omega),Int.toNat_natCast,List.take_length]
 have hp:=fun st=>qol b (((b.batches.map jf).length:Nat):Int) st hB
 rw [e] at hp
 generalize ki b.base b.batches=p at hp
 obtain⟨er,r⟩:=p
 cases er with
 |no=>
  apply qd []
  repeat' (first|apply And.intro|(intro h;try exact cDd)|exact⟨Tryz.call23⟩|refine cpe hp ?_|exact cSd|apply qb []|refine exr ?_|refine qh ?_)
 |num m=>
  apply qd []
  repeat' (first|apply And.intro|(intro h;try exact cDd)|exact⟨Tryz.call23⟩|refine cpe hp ?_|exact cSd|apply qb []|refine exr ?_|refine qh ?_)
 |at' a m=>
  apply qd []
  repeat' (first|apply And.intro|(intro h;try exact cDd)|exact⟨Tryz.call23⟩|refine cpe hp ?_|exact cSd|apply qb []|refine exr ?_|refine qh ?_)
def qi8 (text:qa):ErrV×ve×q9:=if (vf text).1 = .no then (if (ki (vf text).2.base (vf text).2.batches).1 = .no then (.no,(vf text).2,(ki (vf text).2.base (vf text).2.batches).2.l) else ((ki (vf text).2.base (vf text).2.batches).1,qam,ofF [])) else ((vf text).1,qam,ofF [])
def qtq (r:ErrV×ve×q9):AV:=match r.1 with
 | .no=>.tu [yt r.2.1,vw r.2.2,errA .no]
 |e=>.tu [yt r.2.1,.v (.pointer none),errA e]
theorem q25 (r:ErrV×ve×q9):Pure (qtq r):=by
 unfold qtq
 split
 ·exact qal (qhu _) (qh2 _) (vn _)
 ·exact qal (qhu _) (qr _) (vn _)
theorem zfl (text:qa) (st:List AObj) (hl:text.length<1000000):qo E 12 [Sv text] st fun r st'=>r=qtq (qi8 text)∧st'=st:=by
 refine zm [.s text] (q25 _) Tryz.func12 rfl rfl (fun _=>rfl) rfl fun S0=>?_
 have hbr:=fun st=>qug text st hl
 have hbk:(vf text).1 = .no→BkB (vf text).2:=fun h=>qyv (qql (text:=text) (b:=(vf text).2) (by rw [← h]))
 unfold qi8
 generalize vf text=q at hbr hbk
 obtain⟨e,b⟩:=q
 cases e with
 |num m=>
  rw [if_neg (by simp)]
  apply qd []
  repeat' (first|apply And.intro|(intro h;try exact cDd)|exact⟨Tryz.call19⟩|refine cpe hbr ?_|exact cSd|apply qb []|refine exr ?_|refine qh ?_)
 |at' a m=>
  rw [if_neg (by simp)]
  apply qd []
  repeat' (first|apply And.intro|(intro h;try exact cDd)|exact⟨Tryz.call19⟩|refine cpe hbr ?_|exact cSd|apply qb []|refine exr ?_|refine qh ?_)
 |no=>
  rw [if_pos rfl]
  have hof:=fun st=>zdo b st (hbk rfl)
  dsimp only
  generalize ki b.base b.batches=p at hof
  obtain⟨e,r⟩:=p
  cases e with
  |no=>
   rw [if_pos rfl]
   apply qd []
   repeat' (first|apply And.intro|(intro h;try exact cDd)|exact⟨Tryz.call19⟩|refine cpe hbr ?_|exact⟨Tryz.call24⟩|refine cpe hof ?_|exact cSd|apply qb []|refine exr ?_|refine qh ?_)
  |num m=>
   rw [if_neg (by simp)]
   apply qd []
   repeat' (first|apply And.intro|(intro h;try exact cDd)|exact⟨Tryz.call19⟩|refine cpe hbr ?_|exact⟨Tryz.call24⟩|refine cpe hof ?_|exact cSd|apply qb []|refine exr ?_|refine qh ?_)
  |at' a m=>
   rw [if_neg (by simp)]
   apply qd []
   repeat' (first|apply And.intro|(intro h;try exact cDd)|exact⟨Tryz.call19⟩|refine cpe hbr ?_|exact⟨Tryz.call24⟩|refine cpe hof ?_|exact cSd|apply qb []|refine exr ?_|refine qh ?_)
end Go.Proofs.YtmoklbacdkmkaaaGreatDoor
namespace Go.Pl
open Go Go.Proofs Go.Proofs.YtmoklbacdkmkaaaGreatDoor
def tr (ls:List qa):List (qa×Bool):=ls.map fun s=>(s,true)
end Go.Pl
namespace Go.Pl
open Go Go.Proofs
def cntF (es:List EntV):Nat:=es.countP fun e=>decide (0<e.id)
theorem qnt (es:List EntV) (e:EntV):cntF (es++[e])=cntF es+if 0<e.id then 1 else 0:=by
 unfold cntF
 rw [List.countP_append]
 by_cases h:0<e.id <;> simp [h]
theorem zec (es:List EntV):cntF es≤es.length:=List.countP_le_length
end Go.Pl
namespace Go.Proofs.YtmoklbacdkmkaaaGreatDoor
open Go Go.Av Go.RowKit Go.Proofs Go.Pl
theorem qmm {a b c d:AV} (h1:Pure a) (h2:Pure b) (h3:Pure c) (h4:Pure d):Pure (.tu [a,b,c,d]):=qc4 fun z hz=>by
 simp only [List.mem_cons,List.not_mem_nil,or_false] at hz
 rcases hz with rfl|rfl|rfl|rfl
 ·exact h1
 ·exact h2
 ·exact h3
 ·exact h4
@[reducible] def qep (es : List EntV) : AV := .sl 4 (es.map entA) none
@[reducible] def vq (l : q9) : AV := .ag [qep l.ents, Iv l.next]
theorem q5p (es:List EntV):Pure (qep es):=qa9 fun x hx=>by
 obtain⟨f,_,rfl⟩:=List.mem_map.1 hx
 exact qsj f
theorem qaa (l:q9):Pure (vq l):=qa8 fun y hy=>by
 simp only [AV.cells,List.mem_cons,List.not_mem_nil,or_false] at hy
 rcases hy with rfl|rfl
 ·exact q5p _
 ·exact qr _
def ofR (text:qa):q9:=if jr text = .no then ofF (itsE text) else⟨[],0,0⟩
theorem q21 {text:qa} (h:jr text = .no):qbq text = .tu [xi (itsE text),Iv (-9),Iv 0]:=by
 unfold qbq itsE
 unfold jr at h
 split
 ·rename_i hb
  rw [if_pos hb] at h
  simp at h
 ·rename_i hb
  rw [if_neg hb] at h
  rcases hp:(jt text).1 with _ | ⟨a,n⟩
  ·rfl
  ·rw [hp] at h
   simp at h
theorem q9l (text:qa) (st:List AObj) (hl:text.length<1000000):qo E 82 [Sv text] st fun r st'=>r = .tu [vq (ofR text),Iv (jr text).pos,Iv (jr text).code]∧st'=st:=by
 refine zm [.s text] (qal (qaa _) (qr _) (qr _)) Tryz.func82 rfl rfl (fun _=>rfl) rfl fun S0=>?_
 unfold ofR
 by_cases hno:jr text = .no
 ·have hp:=fun st=>qoo text st hl
  rw [q21 hno] at hp
  have hil:=qq0 text
  rw [hno,if_pos rfl]
  generalize itsE text=its at hp hil
  have hmi:(its.map wg).length=its.length:=by simp
  apply qd []
  repeat' (first|apply And.intro|(intro h;try exact cDd)|exact⟨Tryz.call63⟩|refine cpe hp ?_|exact cSd|apply qb []|refine exr ?_|refine qh ?_)
  refine ji (X:=Nat×q9) (fun (k,l)=>⟨[(2,.bx 0 0),(5,.a (xi its)),(6,.i (-9)),(8,.bx 1 0),(9,.i k)],[(0,some (.cells 35 [.a zk,.i 0])),(1,some (.cells 35 [.tp 2,.i l.next])),(2,some (.tip 4 162 (l.ents.map entA)))],3⟩)
   (fun (k,l)=>k≤its.length∧l.ents.length=k∧(1≤l.next∧l.next≤k+1)∧(its.drop k).foldl qaf l=ofF its) (fun (k,l)=>its.length - k) (0,⟨[],1,0⟩) ⟨by omega,rfl,⟨by decide,by decide⟩,rfl⟩ ?_ ?_
  ·skip
   repeat' (first|apply And.intro|(intro h;try exact cDd)|exact cSd|apply qb []|refine exr ?_|refine qh ?_)
   all_goals (simp;done)
  ·rintro⟨k,l⟩ ⟨hk,hlk,hnx,hrun⟩
   by_cases hkn:k<its.length
   ·have hx:its[k]? = some its[k]:=List.getElem?_eq_getElem hkn
    have hxm:(its.map wg)[k]? = some (wg its[k]):=by rw [List.getElem?_map,hx];rfl
    rw [List.drop_eq_getElem_cons hkn,List.foldl_cons] at hrun
    have hml:(l.ents.map entA).length=l.ents.length:=by simp
    generalize its[k]=x at hx hxm hrun
    by_cases hk3:x.kind=3
    ·have e:qaf l x=⟨l.ents++[⟨x,l.next⟩],l.next+1,l.many+1⟩:=if_pos hk3
     rw [e] at hrun
     apply qd []
     repeat' (first|apply And.intro|(intro h;try exact cDd)|(refine Exists.intro (k) ⟨by omega,_,hxm,?_⟩)|(refine Exists.intro (k+1,⟨l.ents++[⟨x,l.next⟩],l.next+1,l.many+1⟩) ⟨⟨by omega,by simp [hlk],by simp only;omega,hrun⟩,by simp only;omega,?_⟩)|exact cSd|apply qb []|refine exr ?_|refine qh ?_)
     all_goals (simp;done)
    ·have e:qaf l x=⟨l.ents++[⟨x,0⟩],l.next,l.many⟩:=if_neg hk3
     rw [e] at hrun
     apply qd []
     repeat' (first|apply And.intro|(intro h;try exact cDd)|(refine Exists.intro (k) ⟨by omega,_,hxm,?_⟩)|(refine Exists.intro (k+1,⟨l.ents++[⟨x,0⟩],l.next,l.many⟩) ⟨⟨by omega,by simp [hlk],by simp only;omega,hrun⟩,by simp only;omega,?_⟩)|exact cSd|apply qb []|refine exr ?_|refine qh ?_)
     all_goals (simp;done)
   ·have hkn:k=its.length:=by omega
    subst hkn
    rw [List.drop_length] at hrun
    have e:ofF its=l:=hrun.symm
    rw [e]
    apply qd []
    repeat' (first|apply And.intro|(intro h;try exact cDd)|exact cSd|apply qb []|refine exr ?_|refine qh ?_)
 ·obtain⟨its,p,n,hpa,hp,hn,hn0⟩:=qop text hl
  have hz:n≠0:=fun h=>hno (hn0.1 h)
  rw [if_neg hno,← hp,← hn]
  apply qd []
  repeat' (first|apply And.intro|(intro h;try exact cDd)|exact⟨Tryz.call63⟩|refine cpe hpa ?_|exact cSd|apply qb []|refine exr ?_|refine qh ?_)
theorem qkt (l:q9) (id:Int) (st:List AObj) (hl:l.ents.length<1000000):qo E 234 [vq l,Iv id] st fun r st'=>r=Iv (atF l id)∧st'=st:=by
 refine zm [.a (vq l),.i id] (qr _) Tryz.func234 rfl rfl (fun _=>rfl) rfl fun S0=>?_
 unfold atF
 obtain⟨es,nx,mn⟩:=l
 dsimp only at hl ⊢
 have hmi:(es.map entA).length=es.length:=by simp
 apply qd []
 repeat' (first|apply And.intro|(intro h;try exact cDd)|exact cSd|apply qb []|refine exr ?_|refine qh ?_)
 refine ji (X:=Nat) (fun k=>⟨[(1,.i id),(2,.a (.pp [qep es,Iv nx])),(5,.i k)],[],0⟩) (fun k=>k≤es.length∧(0<id→wc id k (es.drop k)=wc id 0 es)) (fun k=>es.length - k) 0 ⟨by omega,by simp⟩ ?_ ?_
 ·skip
  repeat' (first|apply And.intro|(intro h;try exact cDd)|exact cSd|apply qb []|refine exr ?_|refine qh ?_)
  all_goals (simp;done)
 ·rintro k ⟨hk,hrun⟩
  by_cases h1:id<1
  ·rw [if_pos h1]
   apply qd []
   repeat' (first|apply And.intro|(intro h;try exact cDd)|exact cSd|apply qb []|refine exr ?_|refine qh ?_)
  ·rw [if_neg h1]
   have hrun:=hrun (by omega)
   by_cases hkn:k<es.length
   ·have hx:es[k]? = some es[k]:=List.getElem?_eq_getElem hkn
    have hxm:(es.map entA)[k]? = some (entA es[k]):=by rw [List.getElem?_map,hx];rfl
    rw [List.drop_eq_getElem_cons hkn,wc] at hrun
    generalize es[k]=e at hx hxm hrun
    by_cases hid:e.id=id
    ·rw [if_pos hid] at hrun
     rw [← hrun]
     apply qd []
     repeat' (first|apply And.intro|(intro h;try exact cDd)|(refine Exists.intro (k) ⟨by omega,_,hxm,?_⟩)|exact cSd|apply qb []|refine exr ?_|refine qh ?_)
    ·rw [if_neg hid] at hrun
     apply qd []
     repeat' (first|apply And.intro|(intro h;try exact cDd)|(refine Exists.intro (k) ⟨by omega,_,hxm,?_⟩)|(refine Exists.intro (k+1) ⟨⟨by omega,fun _=>hrun⟩,by omega,?_⟩)|exact cSd|apply qb []|refine exr ?_|refine qh ?_)
   ·have hkn:k=es.length:=by omega
    subst hkn
    rw [List.drop_length,wc] at hrun
    rw [← hrun]
    apply qd []
    repeat' (first|apply And.intro|(intro h;try exact cDd)|exact cSd|apply qb []|refine exr ?_|refine qh ?_)
theorem q6k (l:q9) (st:List AObj) (hl:l.ents.length<1000000):qo E 91 [vq l] st fun r st'=>r=Iv (cntF l.ents)∧st'=st:=by
 refine zm [.a (vq l)] (qr _) Tryz.func91 rfl rfl (fun _=>rfl) rfl fun S0=>?_
 obtain⟨es,nx,mn⟩:=l
 dsimp only at hl ⊢
 have hmi:(es.map entA).length=es.length:=by simp
 apply qd []
 repeat' (first|apply And.intro|(intro h;try exact cDd)|exact cSd|apply qb []|refine exr ?_|refine qh ?_)
 refine ji (X:=Nat) (fun k=>⟨[(1,.a (.pp [qep es,Iv nx])),(3,.i (cntF (es.take k):Nat)),(4,.i k)],[],0⟩) (fun k=>k≤es.length) (fun k=>es.length - k) 0 (by omega) ?_ ?_
 ·skip
  repeat' (first|apply And.intro|(intro h;try exact cDd)|exact cSd|apply qb []|refine exr ?_|refine qh ?_)
  all_goals (simp [cntF];done)
 ·rintro k hk
  by_cases hkn:k<es.length
  ·have hx:es[k]? = some es[k]:=List.getElem?_eq_getElem hkn
   have hxm:(es.map entA)[k]? = some (entA es[k]):=by rw [List.getElem?_map,hx];rfl
   have htk:es.take (k+1)=es.take k++[es[k]]:=by rw [List.take_add_one,hx];rfl
   have hct:=qnt (es.take k) es[k]
   have hcl:=zec (es.take k)
   have hcl2:(es.take k).length≤k:=by simp;omega
   rw [← htk] at hct
   generalize es[k]=e at hx hxm hct
   by_cases h0:0<e.id
   ·rw [if_pos h0] at hct
    apply qd []
    repeat' (first|apply And.intro|(intro h;try exact cDd)|(refine Exists.intro (k) ⟨by omega,_,hxm,?_⟩)|(refine Exists.intro (k+1) ⟨by omega,by omega,?_⟩)|exact cSd|apply qb []|refine exr ?_|refine qh ?_)
    all_goals (simp [hct];done)
   ·rw [if_neg h0] at hct
    apply qd []
    repeat' (first|apply And.intro|(intro h;try exact cDd)|(refine Exists.intro (k) ⟨by omega,_,hxm,?_⟩)|(refine Exists.intro (k+1) ⟨by omega,by omega,?_⟩)|exact cSd|apply qb []|refine exr ?_|refine qh ?_)
    all_goals (simp [hct];done)
  ·have hkn:k=es.length:=by omega
   subst hkn
   rw [List.take_length]
   apply qd []
   repeat' (first|apply And.intro|(intro h;try exact cDd)|exact cSd|apply qb []|refine exr ?_|refine qh ?_)
theorem qqa (fs:List Fld) (st:List AObj) (h:qxt fs):qo E 235 [jq fs] st fun r st'=>r=wg ⟨3,zo fs,fs⟩∧st'=st:=by
 refine zm [.a (jq fs)] (qa8 (qkn _)) Tryz.func235 rfl rfl (fun _=>rfl) rfl fun S0=>?_
 have h1:=fun st=>qwz fs st h
 apply qd []
 repeat' (first|apply And.intro|(intro h;try exact cDd)|exact⟨Tryz.call184⟩|refine cpe h1 ?_|exact cSd|apply qb []|refine exr ?_|refine qh ?_)
end Go.Proofs.YtmoklbacdkmkaaaGreatDoor
namespace Go.Pl
open Go Go.Proofs Go.Av
def dlF (i:Nat) (es:List EntV) (k:Nat):List EntV:=(es.take k).take i++(es.take k).drop (i+1)
theorem zgf {i:Nat} {es:List EntV} {k:Nat} {e:EntV} (h:es[k]? = some e):dlF i es (k+1)=dlF i es k++if k=i then [] else [e]:=by
 have hk:=lt_of_getElem? h
 have hl:(es.take k).length=k:=by simp;omega
 unfold dlF
 rw [List.take_add_one,h]
 simp only [Option.toList_some]
 rw [List.take_append,List.drop_append,hl]
 by_cases hki:k=i
 ·subst hki
  rw [if_pos rfl]
  have e1:(es.take k).drop (k+1)=[]:=List.drop_eq_nil_of_le (by omega)
  simp [e1]
 ·rw [if_neg hki]
  by_cases hlt:k<i
  ·have e1:(es.take k).drop (i+1)=[]:=List.drop_eq_nil_of_le (by omega)
   obtain⟨d,hd⟩:∃ d,i - k=d+1:=⟨i - k - 1,by omega⟩
   have hd2:i+1 - k=d+1+1:=by omega
   rw [e1,hd,hd2]
   simp
  ·have hd:i - k=0:=by omega
   have hd2:i+1 - k=0:=by omega
   rw [hd,hd2]
   simp
def inF (j:Nat) (x:EntV) (es:List EntV) (k:Nat):List EntV:=(es.take k).take j++if j≤k then x::(es.take k).drop j else []
theorem zgm {j:Nat} {x:EntV} {es:List EntV} {k:Nat} {e:EntV} (h:es[k]? = some e):inF j x es (k+1)=inF j x es k++e::if j=k+1 then [x] else []:=by
 have hk:=lt_of_getElem? h
 have hl:(es.take k).length=k:=by simp;omega
 unfold inF
 rw [List.take_add_one,h]
 simp only [Option.toList_some]
 rw [List.take_append,List.drop_append,hl]
 by_cases hjk:j=k+1
 ·subst hjk
  have e1:(es.take k).drop (k+1)=[]:=List.drop_eq_nil_of_le (by omega)
  have e2:k+1 - k=1:=by omega
  rw [if_pos (Nat.le_refl _),if_pos rfl,if_neg (by omega),e1,e2]
  simp
 ·rw [if_neg hjk]
  by_cases hlt:j≤k
  ·have hd:j - k=0:=by omega
   rw [if_pos (by omega),if_pos hlt,hd]
   simp
  ·obtain⟨d,hd⟩:∃ d,j - k=d+1:=⟨j - k - 1,by omega⟩
   rw [if_neg (by omega),if_neg hlt,hd]
   simp
end Go.Pl
namespace Go.Proofs.YtmoklbacdkmkaaaGreatDoor
open Go Go.Av Go.RowKit Go.Proofs Go.Pl
def rlR (l:q9) (e:ErrV):AV:=.tu [vq l,Iv e.pos,Iv e.code]
theorem zcz (l:q9) (e:ErrV):Pure (rlR l e):=qal (qaa _) (qr _) (qr _)
theorem qr6 (fs:List Fld) (h:jx fs≠.no):∃ p n,(jx fs).pos=p∧(jx fs).code=n∧n≠0:=⟨_,_,rfl,rfl,fun h'=>h ((qiq fs).1 h')⟩
theorem q23 (l:q9) (id:Int) (fs:List Fld) (st:List AObj) (hl:l.ents.length<1000000) (hK:KeyB fs) (hfl:fs.length<1000000):qo E 196 [vq l,Iv id,jq fs] st fun r st'=>r=rlR (y9 l id fs).2 (y9 l id fs).1∧st'=st:=by
 refine zm [.a (vq l),.i id,.a (jq fs)] (zcz _ _) Tryz.func196 rfl rfl (fun _=>rfl) rfl fun S0=>?_
 have h1:=fun st=>qkt l id st hl
 have hmi:(l.ents.map entA).length=l.ents.length:=by simp
 have h2:=fun st=>qi6 fs st hK (by omega)
 unfold y9 rlR
 rcases qeb l id with h | ⟨i,e,h,he,hid,hid1⟩
 ·rw [h] at h1 ⊢
  rw [if_pos (by decide)]
  apply qd []
  repeat' (first|apply And.intro|(intro h;try exact cDd)|exact⟨Tryz.call234⟩|refine cpe h1 ?_|exact cSd|apply qb []|refine exr ?_|refine qh ?_)
 ·rw [h] at h1 ⊢
  rw [if_neg (by omega)]
  have hil:=lt_of_getElem? he
  by_cases hc:jx fs = .no
  ·rw [hc] at h2
   obtain⟨_,g3,g4⟩:=qft hc
   have h3:=fun st=>qqa fs st (qss g3 g4)
   rw [if_pos hc]
   unfold qkc qbo
   rw [if_pos hc,Int.toNat_natCast,he]
   simp only
   have hx':∀ k e',l.ents[k]? = some e'→(l.ents.set i ⟨⟨3,zo fs,fs⟩,e.id⟩).take (k+1)=(l.ents.set i ⟨⟨3,zo fs,fs⟩,e.id⟩).take k++[if k=i then⟨⟨3,zo fs,fs⟩,e.id⟩ else e']:=fun k e' h=>by
    have hk:=lt_of_getElem? h
    rw [List.take_add_one]
    congr 1
    by_cases hki:k=i
    ·subst hki
     rw [if_pos rfl,List.getElem?_set_self hk]
     try rfl
    ·rw [if_neg hki,List.getElem?_set_ne (fun h=>hki h.symm),h]
     rfl
   have hsl:(l.ents.set i ⟨⟨3,zo fs,fs⟩,e.id⟩).length=l.ents.length:=by simp
   generalize l.ents.set i ⟨⟨3,zo fs,fs⟩,e.id⟩=es' at hx' hsl
   apply qd []
   repeat' (first|apply And.intro|(intro h;try exact cDd)|exact⟨Tryz.call234⟩|refine cpe h1 ?_|exact⟨Tryz.call224⟩|refine cpe h2 ?_|exact cSd|apply qb []|refine exr ?_|refine qh ?_)
   refine ji (X:=Nat) (fun k=>⟨[(2,.a (jq fs)),(3,.a (.pp [qep l.ents,Iv l.next])),(6,.bx 0 0),(9,.i i),(12,.bx 1 0),(13,.i k)],[(0,some (.cells 35 [.a zk,.i 0])),(1,some (.cells 35 [.tp 2,.i l.next])),(2,some (.tip 4 162 ((es'.take k).map entA)))],3⟩)
    (fun k=>k≤l.ents.length) (fun k=>l.ents.length - k) 0 (by omega) ?_ ?_
   ·skip
    repeat' (first|apply And.intro|(intro h;try exact cDd)|exact cSd|apply qb []|refine exr ?_|refine qh ?_)
    all_goals first|rfl|(simp;done)
   ·rintro k hk
    by_cases hkn:k<l.ents.length
    ·have hx:l.ents[k]? = some l.ents[k]:=List.getElem?_eq_getElem hkn
     have hxm:(l.ents.map entA)[k]? = some (entA l.ents[k]):=by rw [List.getElem?_map,hx];rfl
     have htk:=hx' k _ hx
     have htl:((es'.take k).map entA).length≤k:=by simp;omega
     by_cases hki:k=i
     ·have hee:l.ents[k]=e:=by
       have h1:=he
       rw [← hki,hx] at h1
       simpa using h1
      rw [hee] at hx hxm
      rw [if_pos hki] at htk
      apply qd []
      repeat' (first|apply And.intro|(intro h;try exact cDd)|(refine Exists.intro (k) ⟨by omega,_,hxm,?_⟩)|exact⟨Tryz.call235⟩|refine cpe h3 ?_|(refine Exists.intro (k+1) ⟨by omega,by omega,?_⟩)|exact absurd hki (by omega)|exact cSd|apply qb []|refine exr ?_|refine qh ?_)
      all_goals first|(rw [htk];simp;done)|omega|(simp;omega)
     ·rw [if_neg hki] at htk
      generalize l.ents[k]=e' at hx hxm htk
      apply qd []
      repeat' (first|apply And.intro|(intro h;try exact cDd)|(refine Exists.intro (k) ⟨by omega,_,hxm,?_⟩)|(refine Exists.intro (k+1) ⟨by omega,by omega,?_⟩)|exact absurd (by omega) hki|exact cSd|apply qb []|refine exr ?_|refine qh ?_)
      all_goals first|(rw [htk];simp;done)|omega|(simp;omega)
    ·have hkn:k=l.ents.length:=by omega
     subst hkn
     rw [List.take_of_length_le (by omega)]
     apply qd []
     repeat' (first|apply And.intro|(intro h;try exact cDd)|exact cSd|apply qb []|refine exr ?_|refine qh ?_)
  ·obtain⟨p,n,hp,hn,hn0⟩:=qr6 fs hc
   rw [hp,hn] at h2
   rw [if_neg hc,hp,hn]
   apply qd []
   repeat' (first|apply And.intro|(intro h;try exact cDd)|exact⟨Tryz.call234⟩|refine cpe h1 ?_|exact⟨Tryz.call224⟩|refine cpe h2 ?_|exact cSd|apply qb []|refine exr ?_|refine qh ?_)
theorem q6i (l:q9) (id:Int) (st:List AObj) (hl:l.ents.length<1000000):qo E 197 [vq l,Iv id] st fun r st'=>r = .tu [vq (delF l id).2,Iv (delF l id).1.code]∧st'=st:=by
 refine zm [.a (vq l),.i id] (kf (qaa _) (qr _)) Tryz.func197 rfl rfl (fun _=>rfl) rfl fun S0=>?_
 have h1:=fun st=>qkt l id st hl
 have hmi:(l.ents.map entA).length=l.ents.length:=by simp
 unfold delF
 rcases qeb l id with h | ⟨i,e,h,he,hid,hid1⟩
 ·rw [h] at h1 ⊢
  rw [if_pos (by decide)]
  apply qd []
  repeat' (first|apply And.intro|(intro h;try exact cDd)|exact⟨Tryz.call234⟩|refine cpe h1 ?_|exact cSd|apply qb []|refine exr ?_|refine qh ?_)
 ·rw [h] at h1 ⊢
  rw [if_neg (by omega),Int.toNat_natCast]
  unfold delL
  simp only
  have hend:dlF i l.ents l.ents.length=l.ents.take i++l.ents.drop (i+1):=by unfold dlF;rw [List.take_length]
  have hll:∀ k,k≤l.ents.length→((dlF i l.ents k).map entA).length≤k:=fun k hk=>by
   simp [dlF]
   omega
  rw [← hend]
  apply qd []
  repeat' (first|apply And.intro|(intro h;try exact cDd)|exact⟨Tryz.call234⟩|refine cpe h1 ?_|exact cSd|apply qb []|refine exr ?_|refine qh ?_)
  refine ji (X:=Nat) (fun k=>⟨[(2,.a (.pp [qep l.ents,Iv l.next])),(4,.bx 0 0),(6,.i i),(7,.bx 1 0),(8,.i k)],[(0,some (.cells 35 [.a zk,.i 0])),(1,some (.cells 35 [.tp 2,.i l.next])),(2,some (.tip 4 162 ((dlF i l.ents k).map entA)))],3⟩)
   (fun k=>k≤l.ents.length) (fun k=>l.ents.length - k) 0 (by omega) ?_ ?_
  ·skip
   repeat' (first|apply And.intro|(intro h;try exact cDd)|exact cSd|apply qb []|refine exr ?_|refine qh ?_)
   all_goals first|rfl|(simp [dlF];done)|(simp [dlF];rfl)
  ·rintro k hk
   by_cases hkn:k<l.ents.length
   ·have hx:l.ents[k]? = some l.ents[k]:=List.getElem?_eq_getElem hkn
    have hxm:(l.ents.map entA)[k]? = some (entA l.ents[k]):=by rw [List.getElem?_map,hx];rfl
    have htk:=zgf (i:=i) hx
    have htl:=hll k hk
    rw [List.length_map] at htl
    generalize l.ents[k]=e' at hx hxm htk
    by_cases hki:k=i
    ·rw [if_pos hki,List.append_nil] at htk
     apply qd []
     repeat' (first|apply And.intro|(intro h;try exact cDd)|(refine Exists.intro (k+1) ⟨by omega,by omega,?_⟩)|exact absurd hki (by omega)|exact cSd|apply qb []|refine exr ?_|refine qh ?_)
     all_goals first|(rw [htk];done)|omega|(simp;omega)
    ·rw [if_neg hki] at htk
     apply qd []
     repeat' (first|apply And.intro|(intro h;try exact cDd)|(refine Exists.intro (k) ⟨by omega,_,hxm,?_⟩)|(refine Exists.intro (k+1) ⟨by omega,by omega,?_⟩)|exact absurd (by omega) hki|exact cSd|apply qb []|refine exr ?_|refine qh ?_)
     all_goals first|(rw [htk];simp;done)|omega|(simp;omega)
   ·have hkn:k=l.ents.length:=by omega
    subst hkn
    apply qd []
    repeat' (first|apply And.intro|(intro h;try exact cDd)|exact cSd|apply qb []|refine exr ?_|refine qh ?_)
def rlR4 (l:q9) (n:Int) (e:ErrV):AV:=.tu [vq l,Iv n,Iv e.pos,Iv e.code]
theorem q9q (l:q9) (n:Int) (e:ErrV):Pure (rlR4 l n e):=qmm (qaa _) (qr _) (qr _) (qr _)
set_option maxHeartbeats 4000000 in
theorem q6j (l:q9) (id:Int) (fs:List Fld) (st:List AObj) (hl:l.ents.length<1000000) (hn:1≤l.next∧l.next<1000000) (hM:l.many=cntF l.ents) (hK:KeyB fs) (hfl:fs.length<1000000):qo E 198 [vq l,Iv id,jq fs] st fun r st'=>r=rlR4 (insF l id fs).2.2 (insF l id fs).1 (insF l id fs).2.1∧st'=st:=by
 refine zm [.a (vq l),.i id,.a (jq fs)] (q9q _ _ _) Tryz.func198 rfl rfl (fun _=>rfl) rfl fun S0=>?_
 have h1:=fun st=>qkt l id st hl
 have hmi:(l.ents.map entA).length=l.ents.length:=by simp
 have h2:=fun st=>qi6 fs st hK (by omega)
 have h3:=fun st=>q6k l st hl
 unfold insF rlR4
 rw [hM]
 rcases Decidable.em (atF l id<0∧id≠0) with hb|hb
 ·rw [if_pos hb]
  obtain⟨hb1,hb2⟩:=hb
  generalize atF l id=a at hb1 h1
  apply qd []
  repeat' (first|apply And.intro|(intro h;try exact cDd)|exact⟨Tryz.call234⟩|refine cpe h1 ?_|exact cSd|apply qb []|refine exr ?_|refine qh ?_)
 ·rw [if_neg hb]
  obtain⟨a,j,ha,hj,hjl,hor⟩:∃ (a:Int) (j:Nat),atF l id=a∧a+1=(j:Int)∧j≤l.ents.length∧(0≤a∨a = -1∧id=0):=by
   rcases qeb l id with h | ⟨i,e,h,he,_⟩
   ·exact⟨-1,0,h,rfl,by omega,.inr ⟨rfl,Decidable.not_not.1 fun h0=>hb ⟨by omega,h0⟩⟩⟩
   ·have:=lt_of_getElem? he
    exact⟨i,i+1,h,rfl,by omega,.inl (by omega)⟩
  rw [ha] at h1 hb ⊢
  rw [hj,Int.toNat_natCast]
  by_cases hc:jx fs = .no
  ·rw [hc] at h2
   rw [if_pos hc]
   by_cases hm:400≤(cntF l.ents:Int)
   ·rw [if_pos hm]
    generalize cntF l.ents=m at h3 hm
    rcases hor with hor | ⟨hor,hor2⟩
    ·apply qd []
     repeat' (first|apply And.intro|(intro h;try exact cDd)|exact⟨Tryz.call234⟩|refine cpe h1 ?_|exact⟨Tryz.call224⟩|refine cpe h2 ?_|exact⟨Tryz.call91⟩|refine cpe h3 ?_|exact cSd|apply qb []|refine exr ?_|refine qh ?_)
    ·apply qd []
     repeat' (first|apply And.intro|(intro h;try exact cDd)|exact⟨Tryz.call234⟩|refine cpe h1 ?_|exact⟨Tryz.call224⟩|refine cpe h2 ?_|exact⟨Tryz.call91⟩|refine cpe h3 ?_|exact cSd|apply qb []|refine exr ?_|refine qh ?_)
   ·rw [if_neg hm]
    generalize cntF l.ents=m at h3 hm
    obtain⟨_,g3,g4⟩:=qft hc
    have h4:=fun st=>qqa fs st (qss g3 g4)
    unfold insL qbo
    rw [if_pos hc]
    simp only
    have hend:inF j ⟨⟨3,zo fs,fs⟩,l.next⟩ l.ents l.ents.length=l.ents.take j++⟨⟨3,zo fs,fs⟩,l.next⟩::l.ents.drop j:=by
     unfold inF
     rw [List.take_length,if_pos hjl]
    have hll:∀ k,k≤l.ents.length→((inF j ⟨⟨3,zo fs,fs⟩,l.next⟩ l.ents k).map entA).length≤k+1:=fun k hk=>by
     unfold inF
     split
     ·simp
      omega
     ·simp
      omega
    rw [← hend]
    have h0:0≤a→inF j ⟨⟨3,zo fs,fs⟩,l.next⟩ l.ents 0=[]:=fun h=>by
     unfold inF
     rw [if_neg (by omega)]
     simp
    have h00:a = -1→inF j ⟨⟨3,zo fs,fs⟩,l.next⟩ l.ents 0=[⟨⟨3,zo fs,fs⟩,l.next⟩]:=fun h=>by
     unfold inF
     rw [if_pos (by omega)]
     simp
    have hst:=fun k e'=>zgm (j:=j) (x:=⟨⟨3,zo fs,fs⟩,l.next⟩) (es:=l.ents) (k:=k) (e:=e')
    generalize inF j ⟨⟨3,zo fs,fs⟩,l.next⟩ l.ents=iF at hll h0 h00 hst
    rcases hor with hor | ⟨hor,hor2⟩
    ·have h0:=h0 hor
     clear h00
     apply qd []
     repeat' (first|apply And.intro|(intro h;try exact cDd)|exact⟨Tryz.call234⟩|refine cpe h1 ?_|exact⟨Tryz.call224⟩|refine cpe h2 ?_|exact⟨Tryz.call91⟩|refine cpe h3 ?_|exact⟨Tryz.call235⟩|refine cpe h4 ?_|exact cSd|apply qb []|refine exr ?_|refine qh ?_)
     refine ji (X:=Nat) (fun k=>⟨[(3,.a (.pp [qep l.ents,Iv l.next])),(6,.bx 0 0),(10,.i a),(13,.bx 1 0),(14,.bx 2 0),(15,.i k)],[(0,some (.cells 35 [.a zk,.i 0])),(1,some (.cells 35 [.tp 3,.i (l.next+1)])),(2,some (.cells 162 [.i 3,.s (zo fs),.a (jq fs),.i l.next])),(3,some (.tip 4 162 ((iF k).map entA)))],4⟩)
      (fun k=>k≤l.ents.length) (fun k=>l.ents.length - k) 0 (by omega) ?_ ?_
     ·skip
      repeat' (first|apply And.intro|(intro h;try exact cDd)|exact cSd|apply qb []|refine exr ?_|refine qh ?_)
      all_goals first|rfl|(simp [h0];done)|(simp [h0];rfl)
     ·rintro k hk
      by_cases hkn:k<l.ents.length
      ·have hx:l.ents[k]? = some l.ents[k]:=List.getElem?_eq_getElem hkn
       have hxm:(l.ents.map entA)[k]? = some (entA l.ents[k]):=by rw [List.getElem?_map,hx];rfl
       have htk:=hst k _ hx
       have htl:=hll k hk
       rw [List.length_map] at htl
       generalize l.ents[k]=e' at hx hxm htk
       by_cases hki:j=k+1
       ·rw [if_pos hki] at htk
        apply qd []
        repeat' (first|apply And.intro|(intro h;try exact cDd)|(refine Exists.intro (k) ⟨by omega,_,hxm,?_⟩)|(refine Exists.intro (k+1) ⟨by omega,by omega,?_⟩)|exact absurd hki (by omega)|exact cSd|apply qb []|refine exr ?_|refine qh ?_)
        all_goals first|(rw [htk];simp;done)|omega|(simp;omega)
       ·rw [if_neg hki] at htk
        apply qd []
        repeat' (first|apply And.intro|(intro h;try exact cDd)|(refine Exists.intro (k) ⟨by omega,_,hxm,?_⟩)|(refine Exists.intro (k+1) ⟨by omega,by omega,?_⟩)|exact absurd (by omega) hki|exact cSd|apply qb []|refine exr ?_|refine qh ?_)
        all_goals first|(rw [htk];simp;done)|omega|(simp;omega)
      ·have hkn:k=l.ents.length:=by omega
       subst hkn
       apply qd []
       repeat' (first|apply And.intro|(intro h;try exact cDd)|exact cSd|apply qb []|refine exr ?_|refine qh ?_)
    ·have hz:=h00 hor
     clear h00 h0
     subst hor
     apply qd []
     repeat' (first|apply And.intro|(intro h;try exact cDd)|exact⟨Tryz.call234⟩|refine cpe h1 ?_|exact⟨Tryz.call224⟩|refine cpe h2 ?_|exact⟨Tryz.call91⟩|refine cpe h3 ?_|exact⟨Tryz.call235⟩|refine cpe h4 ?_|exact cSd|apply qb []|refine exr ?_|refine qh ?_)
     refine ji (X:=Nat) (fun k=>⟨[(3,.a (.pp [qep l.ents,Iv l.next])),(6,.bx 0 0),(10,.i (-1)),(13,.bx 1 0),(14,.bx 2 0),(15,.i k)],[(0,some (.cells 35 [.a zk,.i 0])),(1,some (.cells 35 [.tp 3,.i (l.next+1)])),(2,some (.cells 162 [.i 3,.s (zo fs),.a (jq fs),.i l.next])),(3,some (.tip 4 162 ((iF k).map entA)))],4⟩)
      (fun k=>k≤l.ents.length) (fun k=>l.ents.length - k) 0 (by omega) ?_ ?_
     ·skip
      repeat' (first|apply And.intro|(intro h;try exact cDd)|exact cSd|apply qb []|refine exr ?_|refine qh ?_)
      all_goals first|rfl|(simp [hz];done)|(simp [hz];rfl)
     ·rintro k hk
      by_cases hkn:k<l.ents.length
      ·have hx:l.ents[k]? = some l.ents[k]:=List.getElem?_eq_getElem hkn
       have hxm:(l.ents.map entA)[k]? = some (entA l.ents[k]):=by rw [List.getElem?_map,hx];rfl
       have htk:=hst k _ hx
       have htl:=hll k hk
       rw [List.length_map] at htl
       generalize l.ents[k]=e' at hx hxm htk
       rw [if_neg (by omega)] at htk
       apply qd []
       repeat' (first|apply And.intro|(intro h;try exact cDd)|(refine Exists.intro (k) ⟨by omega,_,hxm,?_⟩)|(refine Exists.intro (k+1) ⟨by omega,by omega,?_⟩)|exact cSd|apply qb []|refine exr ?_|refine qh ?_)
       all_goals first|(rw [htk];simp;done)|omega|(simp;omega)
      ·have hkn:k=l.ents.length:=by omega
       subst hkn
       apply qd []
       repeat' (first|apply And.intro|(intro h;try exact cDd)|exact cSd|apply qb []|refine exr ?_|refine qh ?_)
  ·obtain⟨p,n,hp,hn,hn0⟩:=qr6 fs hc
   rw [hp,hn] at h2
   rw [if_neg hc,hp,hn]
   rcases hor with hor | ⟨hor,hor2⟩
   ·apply qd []
    repeat' (first|apply And.intro|(intro h;try exact cDd)|exact⟨Tryz.call234⟩|refine cpe h1 ?_|exact⟨Tryz.call224⟩|refine cpe h2 ?_|exact cSd|apply qb []|refine exr ?_|refine qh ?_)
   ·apply qd []
    repeat' (first|apply And.intro|(intro h;try exact cDd)|exact⟨Tryz.call234⟩|refine cpe h1 ?_|exact⟨Tryz.call224⟩|refine cpe h2 ?_|exact cSd|apply qb []|refine exr ?_|refine qh ?_)
end Go.Proofs.YtmoklbacdkmkaaaGreatDoor
namespace Go.Pl
open Go Go.Proofs Go.Av
def LM (l:q9):Prop:=l.many=cntF l.ents
theorem qgc (a b:List EntV):cntF (a++b)=cntF a+cntF b:=by simp [cntF]
theorem qjs (e:EntV) (b:List EntV):cntF (e::b)=(if 0<e.id then 1 else 0)+cntF b:=by
 by_cases h:0<e.id <;> simp [cntF,h] <;> omega
theorem qr9 {l:List EntV} {i:Nat} {e:EntV} (h:l[i]? = some e):l=l.take i++e::l.drop (i+1):=by
 obtain⟨hi,rfl⟩:=List.getElem?_eq_some_iff.1 h
 rw [← List.drop_eq_getElem_cons hi,List.take_append_drop]
theorem zcy {l:q9} (h:LM l) (id:Int) (fs:List Fld):LM (y9 l id fs).2:=by
 unfold y9
 split
 ·exact h
 ·split
  ·unfold qkc
   split
   ·rename_i e he
    unfold LM at h ⊢
    simp only
    rw [h]
    have h1:=qr9 he
    have hi:=lt_of_getElem? he
    rw [List.set_eq_take_append_cons_drop,if_pos hi]
    conv=>lhs;rw [h1]
    rw [qgc,qgc,qjs,qjs]
   ·exact h
  ·exact h
theorem zej {l:q9} (h:LM l) (id:Int):LM (delF l id).2:=by
 unfold delF
 split
 ·exact h
 ·rename_i hn
  rcases qeb l id with g | ⟨i,e,g,he,hid,hid1⟩
  ·exact absurd (by rw [g];decide) hn
  ·rw [g,Int.toNat_natCast]
   unfold LM delL at *
   simp only
   rw [h]
   have h1:=qr9 he
   conv=>lhs;rw [h1]
   rw [qgc,qgc,qjs,if_pos (by omega)]
   omega
theorem zev {l:q9} (h:LM l) (hn:1≤l.next) (id:Int) (fs:List Fld):LM (insF l id fs).2.2:=by
 unfold insF
 split
 ·exact h
 ·split
  ·split
   ·exact h
   ·unfold LM insL at *
    simp only
    rw [h,qgc,qjs,if_pos (by simp only;omega)]
    conv=>lhs;rw [← List.take_append_drop (atF l id+1).toNat l.ents]
    rw [qgc]
    omega
  ·exact h
theorem q0j:∀ (its:List jj) (l:q9),LM l→1≤l.next→LM (its.foldl qaf l)∧1≤(its.foldl qaf l).next
 | [],l,h,hn=>⟨h,hn⟩
 |x::r,l,h,hn=>by
  rw [List.foldl_cons]
  unfold qaf
  split
  ·refine q0j r _ ?_ (by simp only;omega)
   unfold LM at *
   simp only
   rw [qnt,if_pos (by simp only;omega),h]
   omega
  ·refine q0j r _ ?_ hn
   unfold LM at *
   simp only
   rw [qnt,if_neg (by simp),h]
   omega
theorem q8t (its:List jj):LM (ofF its):=(q0j its ⟨[],1,0⟩ (by simp [LM,cntF]) (by decide)).1
end Go.Pl
namespace Go.Proofs.YtmoklbacdkmkaaaGreatDoor
open Go Go.Av Go.RowKit Go.Proofs Go.Pl
theorem q36 {l:q9} (h:LM l) (hn:1≤l.next) (x:qs):LM (oneF l x).2.2:=by
 unfold oneF
 split
 ·exact zcy h _ _
 ·split
  ·exact zej h _
  ·exact zev h hn _ _
theorem qv3:∀ (b:List qs) (k n:Nat) (l:q9) (ids:List Int),LM l→LB n l→n+b.length<900000→LM (xd k b l ids).2.1
 | [],k,n,l,ids,h,_,_=>h
 |x::r,k,n,l,ids,h,hB,hs=>by
  simp only [List.length_cons] at hs
  unfold xd
  split
  ·exact qv3 r (k+1) (n+1) _ _ (q36 h hB.nx0 x) (qo7 hB (by omega) x) (by omega)
  ·exact h
theorem q70 {n:Nat} {l:q9} (h:LM l) (hB:LB n l) (hs:n+40<900000) (b:List qs):LM (doF l b).2.1:=by
 unfold doF
 split
 ·rename_i he
  obtain⟨h1,h2,_⟩:=qc0 he
  exact qv3 b 0 n l [] h hB (by omega)
 ·exact h
theorem q6l (n:Nat) (l:q9) (x:qs) (st:List AObj) (hB:LB n l) (hM:LM l) (hK:KeyB x.fields) (hl:x.fields.length<1000000):qo E 147 [vq l,jb x] st fun r st'=>r = .tu [vq (oneF l x).2.2,Iv (oneF l x).1,Iv (oneF l x).2.1.code]∧st'=st:=by
 refine zm [.a (vq l),.a (jb x)] (qal (qaa _) (qr _) (qr _)) Tryz.func147 rfl rfl (fun _=>rfl) rfl fun S0=>?_
 have g1:=hB.len;have g2:=hB.nx0;have g3:=hB.nx1;have g4:=hB.small
 unfold oneF
 by_cases h1:x.kind=1
 ·rw [if_pos h1]
  have hc:=fun st=>q23 l x.id x.fields st (by omega) hK hl
  unfold rlR at hc
  generalize y9 l x.id x.fields=r at hc
  apply qd []
  repeat' (first|apply And.intro|(intro h;try exact cDd)|exact⟨Tryz.call196⟩|refine cpe hc ?_|exact cSd|apply qb []|refine exr ?_|refine qh ?_)
 ·rw [if_neg h1]
  by_cases h2:x.kind=2
  ·rw [if_pos h2]
   have hc:=fun st=>q6i l x.id st (by omega)
   generalize delF l x.id=r at hc
   apply qd []
   repeat' (first|apply And.intro|(intro h;try exact cDd)|exact⟨Tryz.call197⟩|refine cpe hc ?_|exact cSd|apply qb []|refine exr ?_|refine qh ?_)
  ·rw [if_neg h2]
   have hc:=fun st=>q6j l x.id x.fields st (by omega) ⟨by omega,by omega⟩ hM hK hl
   unfold rlR4 at hc
   generalize insF l x.id x.fields=r at hc
   apply qd []
   repeat' (first|apply And.intro|(intro h;try exact cDd)|exact⟨Tryz.call198⟩|refine cpe hc ?_|exact cSd|apply qb []|refine exr ?_|refine qh ?_)
def doR (l:q9) (r:ErrV×q9×List Int):AV:=if r.1 = .no then .tu [vq r.2.1,qai r.2.2,Iv (-9),Iv 0] else .tu [vq l,qai [],Iv r.1.pos,Iv r.1.code]
theorem zbh (l:q9) (r:ErrV×q9×List Int):Pure (doR l r):=by
 unfold doR
 split
 ·exact qmm (qaa _) (qcq _) (qr _) (qr _)
 ·exact qmm (qaa _) (qcq _) (qr _) (qr _)
theorem q9h (n:Nat) (l:q9) (b:List qs) (st:List AObj) (hB:LB n l) (hM:LM l) (hn:n+40<900000) (hE:∀ x∈b,EdB x) (hl:b.length<1000000):qo E 83 [vq l,jf b] st fun r st'=>r=doR l (doF l b)∧st'=st:=by
 refine zm [.a (vq l),.a (jf b)] (zbh _ _) Tryz.func83 rfl rfl (fun _=>rfl) rfl fun S0=>?_
 have hck:=fun st=>qon b st hE (by omega)
 have hmi:(b.map jb).length=b.length:=by simp
 unfold doF
 by_cases he:eErr b = .no
 ·rw [he] at hck
  rw [if_pos he]
  obtain⟨hb1,hb40,hg⟩:=qc0 he
  apply qd []
  repeat' (first|apply And.intro|(intro h;try exact cDd)|exact⟨Tryz.call124⟩|refine cpe hck ?_|exact cSd|apply qb []|refine exr ?_|refine qh ?_)
  refine ji (X:=Nat×q9×List Int) (fun (k,q,ids)=>⟨[(1,.a (jf b)),(2,.a (.pp [qep l.ents,Iv l.next])),(4,.bx 0 0),(10,.bx 1 0),(11,.tp 2),(12,.i k)],[(0,some (.cells 35 [.a zk,.i 0])),(1,some (.cells 35 [.a (qep q.ents),.i q.next])),(2,some (.tip 1 3 (ids.map fun x=>Iv x)))],3⟩)
   (fun (k,q,ids)=>k≤b.length∧LB (n+k) q∧LM q∧ids.length≤k∧xd k (b.drop k) q ids=xd 0 b l []) (fun (k,q,ids)=>b.length - k) (0,l,[]) ⟨by omega,hB,hM,by simp,rfl⟩ ?_ ?_
  ·skip
   repeat' (first|apply And.intro|(intro h;try exact cDd)|exact cSd|apply qb []|refine exr ?_|refine qh ?_)
   all_goals first|rfl|(simp;done)
  ·rintro⟨k,q,ids⟩ ⟨hk,hq,hqm,hil,hrun⟩
   by_cases hkn:k<b.length
   ·have hx:b[k]? = some b[k]:=List.getElem?_eq_getElem hkn
    have hxm:(b.map jb)[k]? = some (jb b[k]):=by rw [List.getElem?_map,hx];rfl
    have hxE:=hE b[k] (List.getElem_mem hkn)
    have hxf:=(qih (hg b[k] (List.getElem_mem hkn))).1
    rw [List.drop_eq_getElem_cons hkn,xd] at hrun
    have hidl:(ids.map fun x=>Iv x).length=ids.length:=by simp
    generalize b[k]=x at hx hxm hxE hxf hrun
    have hon:=fun st=>q6l (n+k) q x st hq hqm hxE.keys (by omega)
    have hlb:=qo7 hq (by omega) x
    have hlm:=q36 hqm hq.nx0 x
    have hcd:=fun h=>qoh (l:=q) (x:=x) h
    generalize oneF q x=o at hon hlb hlm hcd hrun
    obtain⟨id,e,q'⟩:=o
    dsimp only at hon hlb hlm hcd hrun
    by_cases hen:e = .no
    ·subst hen
     rw [if_pos rfl] at hrun
     by_cases h0:0<id
     ·rw [if_pos h0] at hrun
      apply qd []
      repeat' (first|apply And.intro|(intro h;try exact cDd)|(refine Exists.intro (k) ⟨by omega,_,hxm,?_⟩)|exact⟨Tryz.call147⟩|refine cpe hon ?_|(refine Exists.intro (k+1,q',ids++[id]) ⟨⟨by omega,hlb,hlm,by simp;omega,hrun⟩,by simp only;omega,?_⟩)|exact cSd|apply qb []|refine exr ?_|refine qh ?_)
      all_goals first|(simp;done)|(simp;omega)
     ·rw [if_neg h0] at hrun
      apply qd []
      repeat' (first|apply And.intro|(intro h;try exact cDd)|(refine Exists.intro (k) ⟨by omega,_,hxm,?_⟩)|exact⟨Tryz.call147⟩|refine cpe hon ?_|(refine Exists.intro (k+1,q',ids) ⟨⟨by omega,hlb,hlm,by first|omega|(simp only;omega),hrun⟩,by simp only;omega,?_⟩)|exact cSd|apply qb []|refine exr ?_|refine qh ?_)
      all_goals first|(simp;done)|(simp;omega)
    ·rw [if_neg hen] at hrun
     rw [← hrun]
     have hcd:=hcd hen
     have hA:doR l (ErrV.at' (↑k) e.code,q,ids) = .tu [vq l,qai [],Iv k,Iv e.code]:=by
      unfold doR
      rw [if_neg (by simp)]
      try rfl
     rw [hA]
     generalize ErrV.code e=c at hon hcd
     apply qd []
     repeat' (first|apply And.intro|(intro h;try exact cDd)|(refine Exists.intro (k) ⟨by omega,_,hxm,?_⟩)|exact⟨Tryz.call147⟩|refine cpe hon ?_|exact cSd|apply qb []|refine exr ?_|refine qh ?_)
   ·have hkn:k=b.length:=by omega
    subst hkn
    rw [List.drop_length,xd] at hrun
    rw [← hrun]
    unfold doR
    rw [if_pos rfl]
    apply qd []
    repeat' (first|apply And.intro|(intro h;try exact cDd)|exact cSd|apply qb []|refine exr ?_|refine qh ?_)
 ·obtain⟨p,m,hp,hm,h0⟩:=zem b
  have hz:m≠0:=fun h=>he (h0.1 h)
  rw [if_neg he]
  unfold doR
  simp only
  rw [if_neg he]
  rw [hp,hm] at hck ⊢
  apply qd []
  repeat' (first|apply And.intro|(intro h;try exact cDd)|exact⟨Tryz.call124⟩|refine cpe hck ?_|exact cSd|apply qb []|refine exr ?_|refine qh ?_)
end Go.Proofs.YtmoklbacdkmkaaaGreatDoor
namespace Go.Pl
open Go Go.Proofs Go.Proofs.YtmoklbacdkmkaaaGreatDoor
theorem q6e (x:jj) (r:List jj):qct (x::r)=x.raw++qct r:=by simp [qct]
theorem zcp {its:List jj} {x:jj} (h:x∈its):x.raw.length≤(qct its).length:=by
 induction its with
 |nil=>simp at h
 |cons y r ih=>
  rw [q6e,List.length_append]
  rcases List.mem_cons.1 h with rfl|h
  ·omega
  ·have:=ih h
   omega
structure PR (m:Nat) (p:PSt):Prop where
 tot:(qct p.items).length+(zj p.block).length≤m
 fl:∀ x∈p.items,x.fields.length<900000
theorem qn0 {m:Nat} {p:PSt} (h:PR m p):PR m (js p).2:=by
 unfold js
 split
 ·exact h
 ·split
  ·exact h
  ·split
   ·exact h
   ·exact⟨h.tot,h.fl⟩
theorem q7u {m:Nat} {p:PSt} (h:PR m p) (hf:p.fields.length<900000):PR m (x9 p):=by
 have ht:=h.tot
 unfold x9
 split
 ·exact⟨by simp only [zj,List.flatMap_nil,List.length_nil];omega,h.fl⟩
 ·refine⟨?_,fun x hx=>?_⟩
  ·simp only [qws,qwt,List.length_append]
   simp only [zj,List.flatMap_nil,List.length_nil] at ht ⊢
   omega
  ·simp only [List.mem_append,List.mem_singleton] at hx
   rcases hx with hx|rfl
   ·exact h.fl x hx
   ·exact hf
theorem qum {m n:Nat} {p:PSt} (h:PR m p) (hB:PB n p) (hs:n+1<900000):PR m (endP p).2:=by
 unfold endP
 split
 ·exact h
 ·have:=(qg9 hB hs).fields
  exact q7u (qn0 h) (by omega)
theorem q66 {m n:Nat} {p:PSt} {no:Int} {text:qa} {ended:Bool} {kind:Int} (h:PR m p) (hB:PB n p) (hs:n+1<900000):PR m (jp p no text ended kind).2:=by
 unfold jp
 split
 ·split
  ·exact h
  ·split
   ·exact⟨h.tot,h.fl⟩
   ·exact qn0 ⟨h.tot,h.fl⟩
 ·split
  ·exact qum h hB hs
  ·exact qn0 h
theorem yc (a b:List qa):zj (a++b)=zj a++zj b:=by simp [zj]
theorem zda {m n:Nat} {p:PSt} {no:Int} {text:qa} {ended:Bool} (h:PR m p) (hB:PB n p) (hs:n+1<900000):PR (m+text.length+1) (wm p no text ended).2:=by
 have more:∀ {q:PSt},PR m q→PR (m+text.length+1) q:=fun h=>⟨by have:=h.tot;omega,h.fl⟩
 have h2:PR m (jp p no text ended (qy text)).2:=q66 h hB hs
 have ht:=h2.tot
 unfold wm
 split
 ·exact more h
 ·split
  ·exact more h
  ·split
   ·refine⟨?_,fun x hx=>?_⟩
    ·simp only [qws,qwt,List.length_append,List.length_cons,List.length_nil]
     omega
    ·simp only [List.mem_append,List.mem_singleton] at hx
     rcases hx with hx|rfl
     ·exact h2.fl x hx
     ·simp
   ·split
    ·refine⟨?_,h2.fl⟩
     simp only [km,yc,List.length_append]
     simp only [zj,List.flatMap_cons,List.flatMap_nil,List.length_append,List.length_cons,List.length_nil] at ht ⊢
     omega
    ·refine⟨?_,h2.fl⟩
     simp only [yc,List.length_append]
     simp only [zj,List.flatMap_cons,List.flatMap_nil,List.length_append,List.length_cons,List.length_nil] at ht ⊢
     omega
theorem zfm:∀ (n:Nat) (rest:qa) (k m:Nat) (p:PSt),rest.length≤n→PB (4 * k) p→PR m p→k+rest.length≤60000→PR (m+2 * rest.length) (runL k (zq rest) p).2:=by
 intro n
 induction n with
 |zero=>
  intro rest k m p hr hB hR hk
  obtain rfl:rest=[]:=List.eq_nil_of_length_eq_zero (by omega)
  rw [vt,runL]
  exact qum hR hB (by omega)
 |succ n ih=>
  intro rest k m p hr hB hR hk
  by_cases hne:rest=[]
  ·subst hne
   rw [vt,runL]
   exact qum hR hB (by omega)
  ·have hu:=ko 10 rest
   have hpl:=kp 10 rest
   have hr0:0<rest.length:=List.length_pos_iff.2 hne
   rw [wp hne]
   simp only [runL]
   have hB2:=qrf (no:=k) (text:=upto 10 rest) (ended:=decide (10∈rest)) hB (by omega) (by omega)
   have hR2:=zda (no:=k) (text:=upto 10 rest) (ended:=decide (10∈rest)) hR hB (by omega)
   split
   ·exact⟨by have:=hR.tot;simp only;omega,hR.fl⟩
   ·have:=ih (past 10 rest) (k+1) _ _ (by omega) hB2 hR2 (by omega)
    exact⟨by have:=this.tot;omega,this.fl⟩
theorem zew (text:qa):(qct (itsE text)).length≤120000∧∀ x∈itsE text,x.fields.length<900000:=by
 unfold itsE
 split
 ·simp [qct]
 ·have h:=zfm text.length text 0 0 p0 (Nat.le_refl _) q58 ⟨by simp [p0,qct,zj],by simp [p0]⟩ (by omega)
  unfold jt
  split
  ·simp [qct]
  ·have:=h.tot
   exact⟨by simp only;omega,h.fl⟩
def LI (l:q9):Prop:=∀ e∈l.ents,e.x.raw.length≤1000000∧e.x.fields.length<900000
theorem q8v:∀ (its:List jj) (l:q9),LI l→(∀ x∈its,x.raw.length≤1000000∧x.fields.length<900000)→LI (its.foldl qaf l)
 | [],l,h,_=>h
 |x::r,l,h,hx=>by
  rw [List.foldl_cons]
  refine q8v r _ ?_ fun y hy=>hx y (by simp [hy])
  have h1:=hx x (by simp)
  unfold qaf
  split
  ·intro e he
   simp only [List.mem_append,List.mem_singleton] at he
   rcases he with he|rfl
   ·exact h e he
   ·exact h1
  ·intro e he
   simp only [List.mem_append,List.mem_singleton] at he
   rcases he with he|rfl
   ·exact h e he
   ·exact h1
theorem zgz (text:qa):LI (ofF (itsE text)):=by
 obtain⟨h1,h2⟩:=zew text
 refine q8v _ _ (by simp [LI]) fun x hx=>⟨?_,h2 x hx⟩
 have:=zcp hx
 omega
theorem qwq (fs:List Fld):(qbo fs).raw.length≤1000000∧(qbo fs).fields.length<900000:=by
 unfold qbo
 split
 ·rename_i h
  obtain⟨_,g1,g2⟩:=qft h
  have:=qe6 fs g2
  exact⟨by simp only;omega,by simp only;omega⟩
 ·exact⟨by simp,by simp⟩
theorem zcx {l:q9} (h:LI l) (id:Int) (fs:List Fld):LI (y9 l id fs).2:=by
 unfold y9
 split
 ·exact h
 ·split
  ·unfold qkc
   split
   ·intro y hy
    rcases List.mem_or_eq_of_mem_set hy with hy|rfl
    ·exact h y hy
    ·exact qwq fs
   ·exact h
  ·exact h
theorem zei {l:q9} (h:LI l) (id:Int):LI (delF l id).2:=by
 unfold delF
 split
 ·exact h
 ·intro y hy
  simp only [delL,List.mem_append] at hy
  rcases hy with hy|hy
  ·exact h y (List.mem_of_mem_take hy)
  ·exact h y (List.mem_of_mem_drop hy)
theorem zeu {l:q9} (h:LI l) (id:Int) (fs:List Fld):LI (insF l id fs).2.2:=by
 unfold insF
 split
 ·exact h
 ·split
  ·split
   ·exact h
   ·intro y hy
    simp only [insL,List.mem_append,List.mem_cons] at hy
    rcases hy with hy|rfl|hy
    ·exact h y (List.mem_of_mem_take hy)
    ·exact qwq fs
    ·exact h y (List.mem_of_mem_drop hy)
  ·exact h
end Go.Pl
namespace Go.Proofs.YtmoklbacdkmkaaaGreatDoor
open Go Go.Av Go.RowKit Go.Proofs Go.Pl
theorem zfa {l:q9} (h:LI l) (x:qs):LI (oneF l x).2.2:=by
 unfold oneF
 split
 ·exact zcx h _ _
 ·split
  ·exact zei h _
  ·exact zeu h _ _
theorem qv2:∀ (b:List qs) (k:Nat) (l:q9) (ids:List Int),LI l→LI (xd k b l ids).2.1
 | [],k,l,ids,h=>h
 |x::r,k,l,ids,h=>by
  unfold xd
  split
  ·exact qv2 r (k+1) _ _ (zfa h x)
  ·exact h
theorem zgg {l:q9} (h:LI l) (b:List qs):LI (doF l b).2.1:=by
 unfold doF
 split
 ·exact qv2 b 0 l [] h
 ·exact h
theorem qpu:∀ (b:List qs) (k:Nat) (l:q9) (ids:List Int),(xd k b l ids).1≠.no→(xd k b l ids).1.code≠0
 | [],k,l,ids,h=>by simp [xd] at h
 |x::r,k,l,ids,h=>by
  unfold xd at h ⊢
  split
  ·rename_i he
   rw [if_pos he] at h
   exact qpu r _ _ _ h
  ·rename_i he
   exact qoh he
theorem zbg {l:q9} {b:List qs} (h:(doF l b).1≠.no):(doF l b).1.code≠0:=by
 unfold doF at h ⊢
 split
 ·rename_i he
  rw [if_pos he] at h
  exact qpu _ _ _ _ h
 ·rename_i he
  exact fun h'=>he ((qdb b).1 h')
def lR (b:ve) (n:Nat):q9:=if jr b.base = .no then (ki b.base (b.batches.take n)).2.l else⟨[],0,0⟩
def gR (b:ve) (n:Nat):List (List Int):=if (ki b.base (b.batches.take n)).1 = .no then (ki b.base (b.batches.take n)).2.given else []
theorem qwr {base:qa}:∀ (bs:List (List qs)) (k:Nat) (r:RunV),k+bs.length≤14000→LB (300000+40 * k) r.l→LM r.l→LI r.l→LB 860000 (kq bs r).2.l∧LM (kq bs r).2.l∧LI (kq bs r).2.l
 | [],k,r,hk,h1,h2,h3=>⟨qe8 h1 (by simp at hk;omega) (by omega),h2,h3⟩
 |b::q,k,r,hk,h1,h2,h3=>by
  simp only [List.length_cons] at hk
  unfold kq
  split
  ·exact qwr (base:=base) q (k+1) _ (by omega) (qe8 (qy6 h1 (by omega) b) (by omega) (by omega)) (q70 h2 h1 (by omega) b) (zgg h3 b)
  ·exact⟨qe8 h1 (by omega) (by omega),h2,h3⟩
theorem zck (base:qa) (bs:List (List qs)) (h:bs.length≤14000):LB 860000 (ki base bs).2.l∧LM (ki base bs).2.l∧LI (ki base bs).2.l:=by
 unfold ki
 split
 ·exact qwr (base:=base) bs 0 _ (by omega) (qk8 base) (q8t _) (zgz base)
 ·exact⟨⟨by omega,by simp [ofF],by simp [ofF],by simp [ofF],by simp [ofF],by simp [ofF]⟩,by simp [ofF,LM,cntF],by simp [ofF,LI]⟩
theorem qm9 (b:ve) (n:Nat) (st:List AObj) (hB:BkB b) (hn:n≤b.batches.length):qo E 34 [yt b,Iv n] st fun r st'=>r = .tu [vq (lR b n),qzq (gR b n),Iv (ki b.base (b.batches.take n)).1.pos,Iv (ki b.base (b.batches.take n)).1.code]∧st'=st:=by
 refine zm [.a (yt b),.i n] (qmm (qaa _) (qp1 _) (qr _) (qr _)) Tryz.func34 rfl rfl (fun _=>rfl) rfl fun S0=>?_
 have hof:=fun st=>q9l b.base st hB.base
 have hlb:=qk8 b.base
 have hlm:=q8t (itsE b.base)
 have hbl:=hB.len
 have hbs:(b.batches.take n).length=n:=by simp;omega
 have hbb:∀ x∈b.batches.take n,BB x∧x.length≤5000:=fun x hx=>hB.bat x (List.mem_of_mem_take hx)
 have hix:∀ k,k<n→∃ x,(b.batches.take n)[k]? = some x∧(b.batches.map jf)[k]? = some (jf x)∧(b.batches.take n).drop k=x::(b.batches.take n).drop (k+1)∧BB x:=fun k hk=>by
  have h1:(b.batches.take n)[k]? = some (b.batches.take n)[k]:=List.getElem?_eq_getElem (by omega)
  refine⟨_,h1,?_,by rw [List.drop_eq_getElem_cons (by omega)],(hbb _ (List.getElem_mem _)).1⟩
  rw [List.getElem?_map]
  have h2:(b.batches.take n)[k]? = b.batches[k]?:=by rw [List.getElem?_take,if_pos hk]
  rw [← h2,h1]
  try rfl
 unfold lR gR ki ofR at *
 generalize b.batches.take n=bs at hbs hix
 generalize itsE b.base=its at hlb hof hlm
 by_cases he:jr b.base = .no
 ·rw [he] at hof
  simp only [if_pos he]
  rw [if_pos rfl] at hof
  apply qd []
  repeat' (first|apply And.intro|(intro h;try exact cDd)|exact⟨Tryz.call82⟩|refine cpe hof ?_|exact cSd|apply qb []|refine exr ?_|refine qh ?_)
  refine ji (X:=Nat×RunV) (fun (k,r)=>⟨[(1,.i n),(2,.a (.pp [Iv b.gen,Sv b.base,qcl b.batches,qai b.ends,Sv b.tail])),(4,.bx 0 0),(8,.bx 1 0),(11,.tp 2),(12,.i k)],[(0,some (.cells 35 [.a zk,.i 0])),(1,some (.cells 35 [.a (qep r.l.ents),.i r.l.next])),(2,some (.tip 1 24 (r.given.map qai)))],3⟩)
   (fun (k,r)=>k≤n∧LB (300000+40 * k) r.l∧LM r.l∧r.given.length=k∧kq (bs.drop k) r=kq bs ⟨ofF its,[],[]⟩) (fun (k,r)=>n - k) (0,⟨ofF its,[],[]⟩) ⟨by omega,hlb,hlm,rfl,rfl⟩ ?_ ?_
  ·skip
   repeat' (first|apply And.intro|(intro h;try exact cDd)|exact cSd|apply qb []|refine exr ?_|refine qh ?_)
   all_goals first|rfl|(simp;done)
  ·rintro⟨k,r⟩ ⟨hk,hq,hqm,hgl,hrun⟩
   by_cases hkn:k<n
   ·obtain⟨x,hx,hxm,hdr,hxb⟩:=hix k hkn
    rw [hdr,kq] at hrun
    have hdo:=fun st=>q9h (300000+40 * k) r.l x st hq hqm (by omega) hxb.2 hxb.1
    have hgm:(r.given.map qai).length=k:=by simp [hgl]
    unfold doR at hdo
    by_cases hok:(doF r.l x).1 = .no
    ·rw [if_pos hok] at hrun
     simp only [if_pos hok] at hdo
     have hgl2:(qa3 r x).given.length=k+1:=by simp [qa3,hgl]
     have hlb3:LB (300000+40 * (k+1)) (qa3 r x).l:=qe8 (qy6 hq (by omega) x) (by omega) (by omega)
     have hlm3:LM (qa3 r x).l:=q70 hqm hq (by omega) x
     apply qd []
     repeat' (first|apply And.intro|(intro h;try exact cDd)|(refine Exists.intro (k) ⟨by omega,_,hxm,?_⟩)|exact⟨Tryz.call83⟩|refine cpe hdo ?_|(refine Exists.intro (k+1,qa3 r x) ⟨⟨by omega,hlb3,hlm3,hgl2,hrun⟩,by simp only;omega,?_⟩)|exact cSd|apply qb []|refine exr ?_|refine qh ?_)
     all_goals first|(simp [qa3];done)|(simp [qa3];omega)
    ·rw [if_neg hok] at hrun
     rw [← hrun]
     simp only [if_neg hok] at hdo
     have hcd:=zbg hok
     generalize (doF r.l x).1.code=c at hdo hcd
     simp only [reduceCtorEq,if_false,hgl]
     apply qd []
     repeat' (first|apply And.intro|(intro h;try exact cDd)|(refine Exists.intro (k) ⟨by omega,_,hxm,?_⟩)|exact⟨Tryz.call83⟩|refine cpe hdo ?_|exact cSd|apply qb []|refine exr ?_|refine qh ?_)
   ·have hkn:k=n:=by omega
    subst hkn
    rw [List.drop_of_length_le (by omega),kq] at hrun
    rw [← hrun,if_pos rfl]
    apply qd []
    repeat' (first|apply And.intro|(intro h;try exact cDd)|exact cSd|apply qb []|refine exr ?_|refine qh ?_)
 ·simp only [if_neg he] at hof ⊢
  obtain⟨its',p,m,hpa,hp,hm,hm0⟩:=qop b.base hB.base
  have hz:m≠0:=fun h=>he (hm0.1 h)
  rw [← hp,← hm] at hof ⊢
  apply qd []
  repeat' (first|apply And.intro|(intro h;try exact cDd)|exact⟨Tryz.call82⟩|refine cpe hof ?_|exact cSd|apply qb []|refine exr ?_|refine qh ?_)
theorem q9m (b:ve) (st:List AObj) (hB:BkB b):qo E 51 [yt b] st fun r st'=>r = .tu [vq (lR b b.batches.length),Iv (ki b.base b.batches).1.pos,Iv (ki b.base b.batches).1.code]∧st'=st:=by
 refine zm [.a (yt b)] (qal (qaa _) (qr _) (qr _)) Tryz.func51 rfl rfl (fun _=>rfl) rfl fun S0=>?_
 have h1:=fun st=>qm9 b b.batches.length st hB (Nat.le_refl _)
 rw [List.take_length] at h1
 have hml:(b.batches.map jf).length=b.batches.length:=by simp
 rw [← hml] at h1 ⊢
 apply qd []
 repeat' (first|apply And.intro|(intro h;try exact cDd)|exact⟨Tryz.call34⟩|refine cpe h1 ?_|exact cSd|apply qb []|refine exr ?_|refine qh ?_)
theorem zce {text:qa} (h:jr text≠.no):(jr text).code≠0:=by
 cases hpe:jr text with
 |no=>exact absurd hpe h
 |num n=>have:=qmh hpe;simp [ErrV.code];omega
 |at' a n=>have:=qoj hpe;simpa [ErrV.code] using this
theorem qm7:∀ (bs:List (List qs)) (r:RunV),(kq bs r).1≠.no→(kq bs r).1.code≠0
 | [],r,h=>by simp [kq] at h
 |b::q,r,h=>by
  unfold kq at h ⊢
  split
  ·rename_i he
   rw [if_pos he] at h
   exact qm7 q _ h
  ·exact (by decide:(10:Int)≠0)
theorem q6c {base:qa} {bs:List (List qs)} (h:(ki base bs).1≠.no):(ki base bs).1.code≠0:=by
 unfold ki at h ⊢
 split
 ·rename_i he
  rw [if_pos he] at h
  exact qm7 _ _ h
 ·rename_i he
  exact zce he
def qll:qa:=[65,58,32,49,10]
def qjh:List qs:=[⟨2,1,[]⟩]
theorem q67 (st:List AObj):qo E 11 [] st fun r st'=>r=Bv true∧st'=st:=by
 have hap:=fun st=>zf7 qll qjh st (by decide) (by simp [qjh];exact⟨by simp [KeyB],by simp,by simp,by simp⟩) (by decide)
 have h1:(Go.Pl.appF qll qjh).1 = .no:=by decide +kernel
 have h2:(qi8 (Go.Pl.appF qll qjh).2).1 = .no:=by decide +kernel
 have h3:(qi8 (Go.Pl.appF qll qjh).2).2.2.next=2:=by decide +kernel
 have h4:(qi8 (Go.Pl.appF qll qjh).2).2.2.many=0:=by decide +kernel
 have h5:(Go.Pl.appF qll qjh).2.length<1000000:=by decide +kernel
 rw [h1] at hap
 generalize (Go.Pl.appF qll qjh).2=s at hap h2 h3 h4 h5
 have hrt:=fun st=>zfl s st h5
 unfold qtq at hrt
 simp only [h2] at hrt
 have hn:=fun st=>ze1 (qi8 s).2.2 st
 have hm:=fun st=>zgu (qi8 s).2.2 st
 rw [h3] at hn
 rw [h4] at hm
 refine zm [] (qr _) Tryz.func11 rfl rfl (fun _=>rfl) rfl fun S0=>?_
 apply qd []
 repeat' (first|apply And.intro|(intro h;try exact cDd)|exact⟨Tryz.call28⟩|refine cpe hap ?_|exact⟨Tryz.call12⟩|refine cpe hrt ?_|exact⟨Tryz.call50⟩|refine cpe hm ?_|exact⟨Tryz.call18⟩|refine cpe hn ?_|exact cSd|apply qb []|refine exr ?_|refine qh ?_)
end Go.Proofs.YtmoklbacdkmkaaaGreatDoor
namespace Go.Pl
open Go Go.Proofs
def qbn:List EntV→Option (EntV×List EntV)
 | []=>none
 |e::r=>if 0<e.id then some (e,r) else qbn r
def stzF (es:List EntV):List (Int×List Fld):=(es.filter fun e=>decide (0<e.id)).map fun e=>(e.id,e.x.fields)
theorem qs4:∀ {r:List EntV},qbn r=none→stzF r=[]
 | [],_=>rfl
 |e::r,h=>by
  unfold qbn at h
  split at h
  ·simp at h
  ·rename_i h0
   have:=qs4 h
   simpa [stzF,h0] using this
theorem qs5:∀ {r:List EntV} {e:EntV} {q:List EntV},qbn r=some (e,q)→0<e.id∧e∈r∧stzF r=(e.id,e.x.fields)::stzF q∧q.length<r.length∧∀ y∈q,y∈r
 |x::r,e,q,h=>by
  unfold qbn at h
  split at h
  ·rename_i h0
   simp only [Option.some.injEq,Prod.mk.injEq] at h
   obtain⟨rfl,rfl⟩:=h
   exact⟨h0,by simp,by simp [stzF,h0],by simp,fun y hy=>by simp [hy]⟩
  ·rename_i h0
   obtain⟨h1,h2,h3,h4,h5⟩:=qs5 h
   exact⟨h1,by simp [h2],by simpa [stzF,h0] using h3,by simp;omega,fun y hy=>by simp [h5 y hy]⟩
end Go.Pl
namespace Go.Proofs.YtmoklbacdkmkaaaGreatDoor
open Go Go.Av Go.RowKit Go.Proofs Go.Pl
theorem zg1 {m:Nat} {T:TypeId} {S':List AObj} {cs0:List AV} (h:S'.length=m∨∃ cs,S'[m]? = some (.cells 0 T cs)):∃ cs,(S'++[AObj.cells 0 T cs0])[m]? = some (.cells 0 T cs):=by
 rcases h with rfl | ⟨cs,h⟩
 ·exact⟨cs0,by simp⟩
 ·exact⟨cs,by rw [List.getElem?_append_left (lt_of_getElem? h)];exact h⟩
theorem zg2 {m:Nat} {T:TypeId} {S':List AObj} (h:S'.length=m∨∃ cs,S'[m]? = some (.cells 0 T cs)):m≤S'.length:=by
 rcases h with rfl | ⟨cs,h⟩
 ·omega
 ·exact Nat.le_of_lt (lt_of_getElem? h)
theorem qu7 {L:List (Tmp×AV)} {st:List AObj} {df:List Nat} {s:AS} (h:StA L st df s):StA L (st++[]) df s:=by
 rw [List.append_nil]
 exact h
theorem zdw (l:q9) (o kb n m:Nat) (I:List EntV→List AObj→Prop) (D:List AObj→Prop) (S:List AObj) (hm:S.length=m) (hn:n≤m) (hl:l.ents.length<1000000) (h0:I l.ents S)
  (hI:∀ r S',I r S'→S'[kb]? = some (.cells 0 27 [vw l]))
  (hst:∀ r S' S'',Ext n S' S''→I r S'→I r S'')
  (hY:∀ r e q S' cs,I r S'→S'[m]? = some (.cells 0 139 cs)→qbn r=some (e,q)→yu E o [entA e] S' fun b S''=>S''[m]? = some (.cells 0 139 cs)∧(b=true→I q S'')∧(b=false→D S'')) :
  qo E 145 [.yd o,.bx kb 0 0] S fun r S'=>(∃ i,qbn i=none∧I i S')∨D S':=by
 refine qp Tryz.func145 rfl (Nat.le_of_ble_eq_true rfl) ?_
 have hb:=hI _ S h0
 have hmi:(l.ents.map entA).length=l.ents.length:=by simp
 repeat' (first|apply qm|apply qx|apply qe|apply qg|apply qj|(apply qc;exact rfl;apply cd_f;exact cRa)|(apply zy;(iterate 4 exact rfl))|(apply qb3;(iterate 4 exact rfl))|(apply zx;(iterate 3 exact rfl))|(apply xw;exact rfl;exact rfl)|(apply qcv;(iterate 3 exact rfl))|apply qu|(apply qa5;exact rfl;exact rfl;exact hb;exact rfl;exact rfl))
 refine j5 (fun (k:Nat) s=>∃ S' r,I r S'∧(S'.length=m∨∃ cs,S'[m]? = some (.cells 0 139 cs))∧k≤l.ents.length∧qbn r=qbn (l.ents.drop k)∧StA [(0,.yd o),(10,.sl 4 (l.ents.map entA) none),(11,Iv l.ents.length),(12,Iv k)] (S'++[]) [] s) (fun k=>l.ents.length - k) 0
  ⟨_,_,hst _ _ _ (qig (by omega)) h0,.inl (by simpa using hm),by omega,by simp,qu7 (ja ⟨rfl,rfl,congrArg (fun n:Nat=>Iv (n:Int)) hmi,rfl,trivial⟩)⟩ ?_
 rintro k _ ⟨S',r,hi,hown,hk,hnx,t,rfl⟩
 have hml:=zg2 hown
 by_cases hkn:k<l.ents.length
 ·have hx:l.ents[k]? = some l.ents[k]:=List.getElem?_eq_getElem hkn
  have hxm:(l.ents.map entA)[k]? = some (entA l.ents[k]):=by rw [List.getElem?_map,hx];rfl
  rw [List.drop_eq_getElem_cons hkn,qbn] at hnx
  generalize l.ents[k]=e at hx hxm hnx
  obtain⟨cs,hcs⟩:=zg1 (cs0:=(entA e).cells) hown
  by_cases he:0<e.id
  ·rw [if_pos he] at hnx
   repeat' (first|apply qm|apply qx|apply qe|apply qg|apply qj|(apply qq;(iterate 3 exact rfl))|(apply qw;(iterate 4 exact rfl))|(apply wu;exact cAo)|(apply qc;exact rfl;apply kz;exact cAo)|(apply jg;exact rfl;exact rfl)|(apply zg;(iterate 3 exact rfl))|(apply zx;(iterate 3 exact rfl))|(apply jd;(iterate 5 exact rfl))|(apply zu;(iterate 11 exact rfl))|apply qu|(apply zw (n:=k);(iterate 5 exact rfl);exact hxm))
   apply qdp (o:=o) rfl
   refine yu.mono (hY r e _ _ cs (hst _ _ _ (qig (by omega)) hi) hcs hnx) ?_
   rintro b S2 ⟨h1,h2,h3⟩
   show AOps _ _ _ _ _ _ _
   cases b
   ·skip
    repeat' (first|apply qg|(apply z6;exact rfl)|(apply qw;(iterate 4 exact rfl))|(apply wu;exact cAo)|(apply qk;exact rfl;apply wh;exact cAo)|(apply qc;exact rfl;apply qjr;exact cRa)|apply qt)
    exact qn rfl (qac rfl) (.inr (h3 rfl))
   ·skip
    repeat' (first|apply qe|apply qg|apply qj|(apply z6;exact rfl)|(apply qw;(iterate 4 exact rfl))|(apply wu;exact cAo)|(apply qk;exact rfl;apply wh;exact cAo)|(apply qc;exact rfl;apply qhv;exact cRa)|(apply zh;exact rfl;exact rfl;exact qz (by omega) (by omega))|apply qu)
    exact⟨k+1,⟨_,_,h2 rfl,.inr ⟨cs,h1⟩,by omega,rfl,qu7 (ja ⟨rfl,rfl,rfl,rfl,trivial⟩)⟩,by omega⟩
  ·rw [if_neg he] at hnx
   repeat' (first|apply qm|apply qx|apply qe|apply qg|apply qj|(apply qq;(iterate 3 exact rfl))|(apply qw;(iterate 4 exact rfl))|(apply xf;exact cAo)|(apply qk;exact rfl;apply wa;exact cAo)|(apply qc;exact rfl;apply kz;exact cAo)|(apply qc;exact rfl;apply cd_f;exact cRa)|(apply zh;exact rfl;exact rfl;exact qz (by omega) (by omega))|(apply jg;exact rfl;exact rfl)|(apply zg;(iterate 3 exact rfl))|(apply zx;(iterate 3 exact rfl))|(apply jd;(iterate 5 exact rfl))|(apply zu;(iterate 11 exact rfl))|apply qu|(apply zw (n:=k);(iterate 5 exact rfl);exact hxm))
   exact⟨k+1,⟨_,_,hst _ _ _ (qig (by omega)) hi,.inr ⟨cs,hcs⟩,by omega,hnx,qu7 (ja ⟨rfl,rfl,rfl,rfl,trivial⟩)⟩,by omega⟩
 ·rw [List.drop_of_length_le (by omega),qbn] at hnx
  repeat' (first|apply qm|apply qe|apply qg|(apply qq;(iterate 3 exact rfl))|(apply qc;exact rfl;apply ku;exact cAo)|apply zz)
  exact qn rfl (qac rfl) (.inl ⟨r,hnx,hst _ _ _ (qig (by omega)) hi⟩)
def allY (r:List EntV):Option (SV×List EntV):=(qbn r).map fun x=>(.a (entA x.1),x.2)
theorem zf2 (l:q9) (hl:l.ents.length<1000000):ItC 145 27 [vw l] (evY allY) l.ents:=⟨fun o kb n m I D S hm hn h0 hI hst hY=>by
 refine (zdw l o kb n m I D S hm hn hl h0 hI hst fun r e q S' cs hi hown hx=>?_).mono ?_
 ·refine (hY r (entA e) q S' [.cells 0 139 cs] hi (fun j y hy=>?_) (by simp [evY,allY,hx,SV.ev])).mono fun b S'' ⟨h1,h2,h3⟩=>⟨by have:=h1 0 _ rfl;simpa using this,h2,h3⟩
  match j with
  | 0=>
   simp only [List.getElem?_cons_zero,Option.some.injEq] at hy
   subst hy
   exact⟨hown,qae rfl⟩
  |j+1=>simp at hy
 ·rintro r S' (⟨i,h1,h2⟩|h)
  ·exact .inl ⟨i,by simp [evY,allY,h1],h2⟩
  ·exact .inr h⟩
theorem zgo (l:q9):v4 E 79 [.a (vw l)] 0 (hpF []) ⟨.fn (.func 145) [] [.bx 0 0],vv [],[(0,some (.cells 27 [.a (vw l)]))]++wj [],1⟩:=by
 refine x8 [.a (vw l)] [] 0 (.fn (.func 145) [] [.bx 0 0]) [(0,some (.cells 27 [.a (vw l)]))] 1 Tryz.func79 rfl rfl rfl rfl fun S F ρ=>?_
 apply qd [1]
 repeat' (first|apply And.intro|(intro h;try exact cDd)|exact cSd|apply qb [1]|refine exr ?_|refine qh ?_)
end Go.Proofs.YtmoklbacdkmkaaaGreatDoor
namespace Go.Pl
open Go Go.Proofs
def qeq (id:Int):Nat→List (Int×List Fld)→Int
 | _,[]=> -1
 |k,x::r=>if x.1=id then (k:Int) else qeq id (k+1) r
def qf0 (l:q9) (id:Int):Int:=qeq id 0 (stzF l.ents)
end Go.Pl
namespace Go.Proofs.YtmoklbacdkmkaaaGreatDoor
open Go Go.Av Go.RowKit Go.Proofs Go.Pl
@[reducible] def stzA (x : Int × List Fld) : AV := .ag [Iv x.1, jq x.2]
@[reducible] def q6v (s : List (Int × List Fld)) : AV := .sl 2 (s.map stzA) none
theorem q6w (s:List (Int×List Fld)):Pure (q6v s):=qa9 fun x hx=>by
 obtain⟨f,_,rfl⟩:=List.mem_map.1 hx
 intro y hy
 simp only [AV.cells,List.mem_cons,List.not_mem_nil,or_false] at hy
 rcases hy with rfl|rfl
 ·exact qr _
 ·exact qbk _
theorem q1k (es:List EntV):(stzF es).length≤es.length:=by
 unfold stzF
 rw [List.length_map]
 exact List.length_filter_le _ _
theorem q1f {N:Nat} {B:Bs} {C:Conf} {Q:Exit→Conf→Prop} {X:Type} {f:Operand} {p:Tmp} {asg body:Code} (l:q9) (kb n0:Nat) (ks:List Nat) (I:X→Conf) (sl0:List (Nat×SV)) (P:List EntV→X→Prop) (D:Code→X→Prop) (x0:X) (h0:P l.ents x0)
  (he:EntA B.n0 C (I x0)) (hz:¬ B.dz) (hl:l.ents.length<1000000) (hsl:∀ x,(I x).sl=sl0)
  (hf:sval N sl0 f=some (.fn (.func 145) [] [.bx kb 0]))
  (hkb:∀ x,lkS (I x).hp kb=some (some (.cells 27 [.a (vw l)])))
  (hr:∀ x,qd3 n0 ks (I x).sl (I x).hp (I x).nx=true) (h0r:(ksIn n0 ks (I x0).hp && Nat.ble B.n0 n0)=true)
  (hb:∀ r e q x,P r x→qbn r=some (e,q)→RA E N n0 asg (fun F ρ C1=>RB E N F ρ n0 body (rndQ n0 (P q) D I) C1) ⟨(p,.a (entA e))::(I x).sl,(I x).hp,(I x).nx⟩)
  (hn:∀ r x,qbn r=none→P r x→Q .normal (I x)) (hd:∀ c x,D c x→q5c Q c (I x)):Sm E none N B (.rangeFunc f #[p] asg body) Q C:=by
 refine qqd (zf2 l hl) Tryz.call145 (fun i v j h=>?_) kb n0 [.a (vw l)] (fun _=>rfl) ks I sl0 P D x0 h0 he hz hsl hf hkb hr h0r (fun i x v j hp h=>?_) (fun i x h hp=>?_) hd
 ·unfold allY at h
  cases hx:qbn i with
  |none=>rw [hx] at h;simp at h
  |some y=>
   rw [hx] at h
   simp only [Option.map_some,Option.some.injEq,Prod.mk.injEq] at h
   rw [← h.1]
   try rfl
 ·unfold allY at h
  cases hx:qbn i with
  |none=>rw [hx] at h;simp at h
  |some y=>
   rw [hx] at h
   simp only [Option.map_some,Option.some.injEq,Prod.mk.injEq] at h
   obtain⟨h1,h2⟩:=h
   rw [← h1,← h2]
   exact hb i y.1 y.2 x hp hx
 ·unfold allY at h
  cases hx:qbn i with
  |none=>exact hn i x hx hp
  |some y=>rw [hx] at h;simp at h
theorem zb5 (l:q9) (id:Int) (st:List AObj) (hl:l.ents.length<1000000):qo E 66 [vw l,Iv id] st fun r st'=>r=Iv (qf0 l id)∧st'=st:=by
 refine zm [.a (vw l),.i id] (qr _) Tryz.func66 rfl rfl (fun _=>rfl) rfl fun S0=>?_
 apply qd []
 repeat' (first|apply And.intro|(intro h;try exact cDd)|exact⟨Tryz.call79⟩|(refine jv (zgo l) ?_)|exact cSd|apply qb []|refine exr ?_|refine qh ?_)
 refine q1f (X:=Int×Nat) l 2 3 [0,1,2] (fun (c,n)=>⟨[(3,.a (.pp [Iv id])),(4,.bx 0 0),(5,.bx 1 0),(8,.fn (.func 145) [] [.bx 2 0])],[(0,some (.cells 3 [.i c])),(1,some (.cells 3 [.i n])),(2,some (.cells 27 [.a (vw l)]))],3⟩) _
  (fun r (c,n)=>c=0∧qeq id n (stzF r)=qf0 l id∧n+r.length≤l.ents.length) (fun c x=>c = .ret∧x.1=qf0 l id) (0,0) ⟨rfl,rfl,by simp⟩ ?_ (fun h=>h) hl (fun _=>rfl) rfl (fun _=>rfl) (fun _=>rfl) rfl ?_ ?_ ?_
 ·skip
  repeat' (first|apply And.intro|(intro h;try exact cDd)|exact cSd|apply qb []|refine exr ?_|refine qh ?_)
 ·rintro r e q ⟨c,n⟩ ⟨rfl,h1,h2⟩ hx
  obtain⟨g1,g2,g3,g4,g5⟩:=qs5 hx
  rw [g3,qeq] at h1
  by_cases he:e.id=id
  ·rw [if_pos he] at h1
   refine RA.mk fun S F ρ rd=>?_
   apply qd []
   repeat' (first|apply And.intro|(intro h;try exact cDd)|(refine RB.mk fun S rd=>?_;apply qd [])|(refine Exists.intro ((n:Int),n) ⟨⟨rfl,h1⟩,?_⟩)|exact cSd|apply qb []|refine exr ?_|refine qh ?_)
  ·rw [if_neg he] at h1
   refine RA.mk fun S F ρ rd=>?_
   apply qd []
   repeat' (first|apply And.intro|(intro h;try exact cDd)|(refine RB.mk fun S rd=>?_;apply qd [])|(refine Exists.intro ((0:Int),n+1) ⟨⟨rfl,h1,by omega⟩,?_⟩)|exact cSd|apply qb []|refine exr ?_|refine qh ?_)
   all_goals first|(simp [SV.evs,SV.ev];done)|(simp [SV.evs];omega)
 ·rintro r ⟨c,n⟩ hx ⟨rfl,h1,h2⟩
  rw [qs4 hx,qeq] at h1
  rw [← h1]
  repeat' (first|apply And.intro|(intro h;try exact cDd)|exact cSd|apply qb []|refine exr ?_|refine qh ?_)
 ·rintro c ⟨c',n⟩ ⟨rfl,h1⟩
  dsimp only at h1
  subst h1
  repeat' (first|apply And.intro|(intro h;try exact cDd)|exact cSd|apply qb []|refine exr ?_|refine qh ?_)
end Go.Proofs.YtmoklbacdkmkaaaGreatDoor
namespace Go.Pl
open Go Go.Proofs
theorem q1j (a b:List EntV):stzF (a++b)=stzF a++stzF b:=by simp [stzF]
theorem q1l (e:EntV):stzF [e]=if 0<e.id then [(e.id,e.x.fields)] else []:=by
 by_cases h:0<e.id <;> simp [stzF,h]
end Go.Pl
namespace Go.Proofs.YtmoklbacdkmkaaaGreatDoor
open Go Go.Av Go.RowKit Go.Proofs Go.Pl
theorem qu2 (l:q9) (st:List AObj) (hl:l.ents.length<1000000):qo E 36 [vq l] st fun r st'=>r=q6v (stzF l.ents)∧st'=st:=by
 refine zm [.a (vq l)] (q6w _) Tryz.func36 rfl rfl (fun _=>rfl) rfl fun S0=>?_
 obtain⟨es,nx,mn⟩:=l
 dsimp only at hl ⊢
 have hmi:(es.map entA).length=es.length:=by simp
 apply qd []
 repeat' (first|apply And.intro|(intro h;try exact cDd)|exact cSd|apply qb []|refine exr ?_|refine qh ?_)
 refine ji (X:=Nat) (fun k=>⟨[(1,.a (.pp [qep es,Iv nx])),(3,.tp 0),(4,.i k)],[(0,some (.tip 2 149 ((stzF (es.take k)).map stzA)))],1⟩) (fun k=>k≤es.length) (fun k=>es.length - k) 0 (by omega) ?_ ?_
 ·skip
  repeat' (first|apply And.intro|(intro h;try exact cDd)|exact cSd|apply qb []|refine exr ?_|refine qh ?_)
  all_goals first|rfl|(simp [stzF];done)|(simp [stzF];rfl)
 ·rintro k hk
  by_cases hkn:k<es.length
  ·have hx:es[k]? = some es[k]:=List.getElem?_eq_getElem hkn
   have hxm:(es.map entA)[k]? = some (entA es[k]):=by rw [List.getElem?_map,hx];rfl
   have htk:es.take (k+1)=es.take k++[es[k]]:=by rw [List.take_add_one,hx];rfl
   have hsl:=q1k (es.take k)
   have hsl2:(es.take k).length≤k:=by simp;omega
   generalize es[k]=e at hx hxm htk
   by_cases h0:0<e.id
   ·have e1:stzF (es.take (k+1))=stzF (es.take k)++[(e.id,e.x.fields)]:=by rw [htk,q1j,q1l,if_pos h0]
    apply qd []
    repeat' (first|apply And.intro|(intro h;try exact cDd)|(refine Exists.intro (k) ⟨by omega,_,hxm,?_⟩)|(refine Exists.intro (k+1) ⟨by omega,by omega,?_⟩)|exact cSd|apply qb []|refine exr ?_|refine qh ?_)
    all_goals first|(rw [e1];simp;done)|(simp;omega)
   ·have e1:stzF (es.take (k+1))=stzF (es.take k):=by rw [htk,q1j,q1l,if_neg h0,List.append_nil]
    apply qd []
    repeat' (first|apply And.intro|(intro h;try exact cDd)|(refine Exists.intro (k) ⟨by omega,_,hxm,?_⟩)|(refine Exists.intro (k+1) ⟨by omega,by omega,?_⟩)|exact cSd|apply qb []|refine exr ?_|refine qh ?_)
    all_goals first|(rw [e1];done)|(simp;omega)
  ·have hkn:k=es.length:=by omega
   subst hkn
   rw [List.take_length]
   apply qd []
   repeat' (first|apply And.intro|(intro h;try exact cDd)|exact cSd|apply qb []|refine exr ?_|refine qh ?_)
theorem q07 (l:q9) (id:Int) (st:List AObj) (hl:l.ents.length<1000000):qo E 68 [vq l,Iv id] st fun r st'=>r=Iv (qf0 l id)∧st'=st:=by
 refine zm [.a (vq l),.i id] (qr _) Tryz.func68 rfl rfl (fun _=>rfl) rfl fun S0=>?_
 have h1:=fun st=>qu2 l st hl
 have hsl:=q1k l.ents
 unfold qf0
 generalize stzF l.ents=s at h1 hsl
 have hmi:(s.map stzA).length=s.length:=by simp
 apply qd []
 repeat' (first|apply And.intro|(intro h;try exact cDd)|exact⟨Tryz.call36⟩|refine cpe h1 ?_|exact cSd|apply qb []|refine exr ?_|refine qh ?_)
 refine ji (X:=Nat) (fun k=>⟨[(1,.i id),(5,.a (q6v s)),(6,.i k)],[],0⟩) (fun k=>k≤s.length∧qeq id k (s.drop k)=qeq id 0 s) (fun k=>s.length - k) 0 ⟨by omega,rfl⟩ ?_ ?_
 ·skip
  repeat' (first|apply And.intro|(intro h;try exact cDd)|exact cSd|apply qb []|refine exr ?_|refine qh ?_)
  all_goals (simp;done)
 ·rintro k ⟨hk,hrun⟩
  by_cases hkn:k<s.length
  ·have hx:s[k]? = some s[k]:=List.getElem?_eq_getElem hkn
   have hxm:(s.map stzA)[k]? = some (stzA s[k]):=by rw [List.getElem?_map,hx];rfl
   rw [List.drop_eq_getElem_cons hkn,qeq] at hrun
   generalize s[k]=x at hx hxm hrun
   by_cases hi:x.1=id
   ·rw [if_pos hi] at hrun
    rw [← hrun]
    apply qd []
    repeat' (first|apply And.intro|(intro h;try exact cDd)|(refine Exists.intro (k) ⟨by omega,_,hxm,?_⟩)|exact cSd|apply qb []|refine exr ?_|refine qh ?_)
   ·rw [if_neg hi] at hrun
    apply qd []
    repeat' (first|apply And.intro|(intro h;try exact cDd)|(refine Exists.intro (k) ⟨by omega,_,hxm,?_⟩)|(refine Exists.intro (k+1) ⟨⟨by omega,hrun⟩,by omega,?_⟩)|exact cSd|apply qb []|refine exr ?_|refine qh ?_)
  ·have hkn:k=s.length:=by omega
   subst hkn
   rw [List.drop_length,qeq] at hrun
   rw [← hrun]
   apply qd []
   repeat' (first|apply And.intro|(intro h;try exact cDd)|exact cSd|apply qb []|refine exr ?_|refine qh ?_)
def qjo (b:ve) (id:Int):Bool:=decide (0≤qf0 (ofF (itsE b.base)) id∧(ki b.base b.batches).1 = .no∧id∉(ki b.base b.batches).2.touched)
theorem qi4:∀ (bs:List (List qs)) (r r':RunV),kq bs r=(.no,r')→r'.touched=r.touched++bs.flatMap vb
 | [],r,r',h=>by
  simp only [kq,Prod.mk.injEq,true_and] at h
  subst h
  simp
 |b::q,r,r',h=>by
  unfold kq at h
  split at h
  ·rw [qi4 q _ _ h]
   simp [qa3]
  ·simp at h
theorem qhi {base:qa} {bs:List (List qs)} (h:(ki base bs).1 = .no):(ki base bs).2.touched=bs.flatMap vb:=by
 unfold ki at h ⊢
 split
 ·rename_i hp
  rw [if_pos hp] at h
  have:=qi4 bs ⟨ofF (itsE base),[],[]⟩ (kq bs ⟨ofF (itsE base),[],[]⟩).2 (by rw [← h])
  simpa using this
 ·rename_i hp
  rw [if_neg hp] at h
  exact absurd h hp
theorem qnp {b:ve} (hp:jr b.base = .no):qga b 0=(.no,⟨ofF (itsE b.base),[],[]⟩):=by
 unfold qga
 rw [if_neg (by omega)]
 unfold ki
 rw [if_pos hp]
 try rfl
theorem zdd {bs:List (List qs)}:∀ (h:∀ x∈bs,x.length≤5000),(bs.flatMap vb).length≤5000 * bs.length:=by
 induction bs with
 |nil=>simp
 |cons b r ih=>
  intro h
  have h1:=ih fun x hx=>h x (by simp [hx])
  have h2:=h b (by simp)
  have h3:(vb b).length≤b.length:=by
   unfold vb
   rw [List.length_map]
   exact List.length_filter_le _ _
  rw [List.flatMap_cons,List.length_append,List.length_cons]
  omega
theorem zfg (b:ve) (id:Int) (st:List AObj) (hB:BkB b) (hp:jr b.base = .no):qo E 21 [yt b,Iv id] st fun r st'=>r=Bv (qjo b id)∧st'=st:=by
 refine zm [.a (yt b),.i id] (qr _) Tryz.func21 rfl rfl (fun _=>rfl) rfl fun S0=>?_
 have hbh:=fun st=>qol b 0 st hB
 rw [qnp hp] at hbh
 have hpl:=fun st=>zb5 (ofF (itsE b.base)) id st (by have:=(qk8 b.base).len;omega)
 have hpy:=fun st=>q4d b.base b.batches st hB.base hB.len hB.bat
 have htl:=zdd fun x hx=>(hB.bat x hx).2
 have hbl:=hB.len
 have htc:=@qhi b.base b.batches
 unfold qjo
 generalize qf0 (ofF (itsE b.base)) id=pl at hpl
 generalize ofF (itsE b.base)=l0 at hbh hpl
 replace hbh:∀ st,qo E 23 [yt b,Iv 0] st fun r st'=>r = .tu [vw l0,errA .no]∧st'=st:=hbh
 by_cases h0:pl<0
 ·rw [decide_eq_false fun h=>absurd h.1 (by omega)]
  apply qd []
  repeat' (first|apply And.intro|(intro h;try exact cDd)|exact⟨Tryz.call23⟩|refine cpe hbh ?_|exact⟨Tryz.call66⟩|refine cpe hpl ?_|exact cSd|apply qb []|refine exr ?_|refine qh ?_)
 generalize ki b.base b.batches=p at hpy htc
 obtain⟨e,r⟩:=p
 dsimp only at htc ⊢
 unfold qx1 at hpy
 by_cases he:e = .no
 ·subst he
  have htc:=htc rfl
  obtain⟨l,g,tc⟩:=r
  dsimp only at htc hpy ⊢
  rw [← htc] at htl
  clear htc
  have hmi:(tc.map fun x=>Iv x).length=tc.length:=by simp
  apply qd []
  repeat' (first|apply And.intro|(intro h;try exact cDd)|exact⟨Tryz.call23⟩|refine cpe hbh ?_|exact⟨Tryz.call66⟩|refine cpe hpl ?_|exact⟨Tryz.call67⟩|refine cpe hpy ?_|exact cSd|apply qb []|refine exr ?_|refine qh ?_)
  refine ji (X:=Nat) (fun k=>⟨[(1,.i id),(36,.a (qai tc)),(37,.i tc.length),(38,.i k)],[],0⟩) (fun k=>k≤tc.length∧id∉tc.take k) (fun k=>tc.length - k) 0 ⟨by omega,by simp⟩ ?_ ?_
  ·skip
   repeat' (first|apply And.intro|(intro h;try exact cDd)|exact cSd|apply qb []|refine exr ?_|refine qh ?_)
   all_goals (simp;done)
  ·rintro k ⟨hk,hrun⟩
   by_cases hkn:k<tc.length
   ·have hx:tc[k]? = some tc[k]:=List.getElem?_eq_getElem hkn
    have hxm:(tc.map fun x=>Iv x)[k]? = some (Iv tc[k]):=by rw [List.getElem?_map,hx];rfl
    have htk:tc.take (k+1)=tc.take k++[tc[k]]:=by rw [List.take_add_one,hx];rfl
    have hmm:tc[k]∈tc:=List.getElem_mem hkn
    generalize tc[k]=x at hx hxm htk hmm
    by_cases hi:x=id
    ·rw [decide_eq_false fun h=>h.2.2 (by rw [← hi];exact hmm)]
     apply qd []
     repeat' (first|apply And.intro|(intro h;try exact cDd)|(refine Exists.intro (k) ⟨by omega,_,hxm,?_⟩)|exact cSd|apply qb []|refine exr ?_|refine qh ?_)
    ·have hni:id∉tc.take (k+1):=by rw [htk];simp [hrun];exact fun h=>hi h.symm
     apply qd []
     repeat' (first|apply And.intro|(intro h;try exact cDd)|(refine Exists.intro (k) ⟨by omega,_,hxm,?_⟩)|(refine Exists.intro (k+1) ⟨⟨by omega,hni⟩,by omega,?_⟩)|exact cSd|apply qb []|refine exr ?_|refine qh ?_)
   ·have hkn:k=tc.length:=by omega
    subst hkn
    rw [List.take_length] at hrun
    rw [decide_eq_true ⟨by omega,rfl,hrun⟩]
    apply qd []
    repeat' (first|apply And.intro|(intro h;try exact cDd)|exact cSd|apply qb []|refine exr ?_|refine qh ?_)
 ·rw [decide_eq_false fun h=>he h.2.1]
  cases e with
  |no=>exact absurd rfl he
  |num n=>
   apply qd []
   repeat' (first|apply And.intro|(intro h;try exact cDd)|exact⟨Tryz.call23⟩|refine cpe hbh ?_|exact⟨Tryz.call66⟩|refine cpe hpl ?_|exact⟨Tryz.call67⟩|refine cpe hpy ?_|exact cSd|apply qb []|refine exr ?_|refine qh ?_)
  |at' a n=>
   apply qd []
   repeat' (first|apply And.intro|(intro h;try exact cDd)|exact⟨Tryz.call23⟩|refine cpe hbh ?_|exact⟨Tryz.call66⟩|refine cpe hpl ?_|exact⟨Tryz.call67⟩|refine cpe hpy ?_|exact cSd|apply qb []|refine exr ?_|refine qh ?_)
end Go.Proofs.YtmoklbacdkmkaaaGreatDoor
namespace Go.Pl
open Go Go.Proofs Go.Av
def rawG (l:q9) (id:Int):Option qa:=(l.ents.find? fun e=>decide (e.id=id)).map fun e=>e.x.raw
theorem qzs (id:Int):∀ (es:List EntV) (k:Nat),(wc id k es = -1∧es.find? (fun e=>decide (e.id=id))=none)∨∃ i e,wc id k es=((k+i:Nat):Int)∧es[i]? = some e∧es.find? (fun e=>decide (e.id=id))=some e
 | [],k=>.inl ⟨rfl,rfl⟩
 |e::r,k=>by
  unfold wc
  by_cases h:e.id=id
  ·rw [if_pos h,List.find?_cons_of_pos (by simp [h])]
   exact .inr ⟨0,e,by simp,rfl,rfl⟩
  ·rw [if_neg h,List.find?_cons_of_neg (by simp [h])]
   rcases qzs id r (k+1) with g | ⟨i,e',g1,g2,g3⟩
   ·exact .inl g
   ·exact .inr ⟨i+1,e',by rw [g1];congr 1;omega,by simpa using g2,g3⟩
theorem q4b {l:q9} {id:Int} (h:1≤id):rawF l id=match rawG l id with
  |some x=>(x,true)
  |none=>([],false):=by
 unfold rawF rawG atF
 rw [if_neg (by omega)]
 rcases qzs id l.ents 0 with⟨g1,g2⟩ | ⟨i,e,g1,g2,g3⟩
 ·rw [g1,g2]
  simp only [Option.map_none]
  split
  ·rw [if_pos (by decide)]
  ·rfl
 ·rw [g1,g3,Nat.zero_add,Int.toNat_natCast,g2]
  simp only [Option.map_some]
  rw [if_neg (by omega)]
theorem ql0 {p:EntV→Bool} {a b c:List EntV} (h:∀ y∈b,¬ p y=true):(a++(b++c)).find? p=(a++c).find? p:=by
 rw [List.find?_append,List.find?_append,List.find?_append]
 have:b.find? p=none:=List.find?_eq_none.2 h
 rw [this]
 simp
theorem q9p {l:q9} {id:Int} (x:Int) (fs:List Fld) (h:x≠id):rawG (y9 l x fs).2 id=rawG l id:=by
 unfold y9
 split
 ·rfl
 ·rename_i hn
  split
  ·rcases qeb l x with g | ⟨i,e,g,he,hid,_⟩
   ·exact absurd (by rw [g];decide) hn
   ·rw [g,Int.toNat_natCast]
    unfold qkc rawG
    rw [he]
    have h1:=qr9 he
    have hi:=lt_of_getElem? he
    simp only
    rw [List.set_eq_take_append_cons_drop,if_pos hi]
    conv=>rhs;rw [h1]
    congr 1
    have e1:=ql0 (p:=fun e=>decide (e.id=id)) (a:=l.ents.take i) (b:=[⟨qbo fs,e.id⟩]) (c:=l.ents.drop (i+1)) (by simp;omega)
    have e2:=ql0 (p:=fun e=>decide (e.id=id)) (a:=l.ents.take i) (b:=[e]) (c:=l.ents.drop (i+1)) (by simp;omega)
    simp only [List.singleton_append] at e1 e2
    rw [e1,e2]
  ·rfl
theorem zbd {l:q9} {id:Int} (x:Int) (h:x≠id):rawG (delF l x).2 id=rawG l id:=by
 unfold delF
 split
 ·rfl
 ·rename_i hn
  rcases qeb l x with g | ⟨i,e,g,he,hid,_⟩
  ·exact absurd (by rw [g];decide) hn
  ·rw [g,Int.toNat_natCast]
   unfold delL rawG
   have h1:=qr9 he
   simp only
   conv=>rhs;rw [h1]
   congr 1
   have e2:=ql0 (p:=fun e=>decide (e.id=id)) (a:=l.ents.take i) (b:=[e]) (c:=l.ents.drop (i+1)) (by simp;omega)
   simp only [List.singleton_append] at e2
   rw [e2]
theorem zby {l:q9} {id:Int} (x:Int) (fs:List Fld) (h:id<l.next):rawG (insF l x fs).2.2 id=rawG l id:=by
 unfold insF
 split
 ·rfl
 ·split
  ·split
   ·rfl
   ·unfold insL rawG
    simp only
    congr 1
    have e2:=ql0 (p:=fun e=>decide (e.id=id)) (a:=l.ents.take (atF l x+1).toNat) (b:=[⟨qbo fs,l.next⟩]) (c:=l.ents.drop (atF l x+1).toNat) (by simp;omega)
    simp only [List.singleton_append] at e2
    rw [e2,List.take_append_drop]
  ·rfl
theorem quv:∀ (its:List jj) (l:q9),1≤l.next→(∀ e∈l.ents,e.id<l.next)→∀ e∈(its.foldl qaf l).ents,e.id<(its.foldl qaf l).next
 | [],l,_,h=>h
 |x::r,l,hn,h=>by
  rw [List.foldl_cons]
  unfold qaf
  split
  ·refine quv r _ (by simp only;omega) fun e he=>?_
   simp only [List.mem_append,List.mem_singleton] at he
   rcases he with he|rfl
   ·have:=h e he
    simp only
    omega
   ·simp only
    omega
  ·refine quv r _ hn fun e he=>?_
   simp only [List.mem_append,List.mem_singleton] at he
   rcases he with he|rfl
   ·exact h e he
   ·simp only
    omega
theorem qwd (id:Int):∀ (s:List (Int×List Fld)) (k:Nat),0≤qeq id k s→∃ x∈s,x.1=id
 | [],k,h=>by simp [qeq] at h
 |x::r,k,h=>by
  unfold qeq at h
  split at h
  ·rename_i hx
   exact⟨x,by simp,hx⟩
  ·obtain⟨y,hy,h2⟩:=qwd id r (k+1) h
   exact⟨y,by simp [hy],h2⟩
theorem q89 {l:q9} {id:Int} (h:0≤qf0 l id):1≤id∧∃ e∈l.ents,e.id=id:=by
 obtain⟨x,hx,rfl⟩:=qwd id _ 0 h
 obtain⟨e,he,rfl⟩:=List.mem_map.1 hx
 obtain⟨h1,h2⟩:=List.mem_filter.1 he
 have:0<e.id:=by simpa using h2
 exact⟨by simp only;omega,e,h1,rfl⟩
end Go.Pl
namespace Go.Proofs.YtmoklbacdkmkaaaGreatDoor
open Go Go.Av Go.RowKit Go.Proofs Go.Pl
theorem q8w (l:q9) (x:qs):l.next≤(oneF l x).2.2.next:=by
 unfold oneF y9 delF insF qkc delL insL
 split
 ·split
  ·exact Int.le_refl _
  ·split
   ·split <;> exact Int.le_refl _
   ·exact Int.le_refl _
 ·split
  ·split <;> exact Int.le_refl _
  ·split
   ·exact Int.le_refl _
   ·split
    ·split
     ·exact Int.le_refl _
     ·simp only
      omega
    ·exact Int.le_refl _
theorem zcb {l:q9} {id:Int} {x:qs} (h:x.kind≠3→x.id≠id) (hn:id<l.next):rawG (oneF l x).2.2 id=rawG l id:=by
 unfold oneF
 split
 ·exact q9p _ _ (h (by omega))
 ·split
  ·exact zbd _ (h (by omega))
  ·exact zby _ _ hn
theorem qsd {id:Int}:∀ (b:List qs) (k:Nat) (l:q9) (ids:List Int),(∀ x∈b,x.kind≠3→x.id≠id)→id<l.next→rawG (xd k b l ids).2.1 id=rawG l id∧id<(xd k b l ids).2.1.next
 | [],k,l,ids,_,hn=>⟨rfl,hn⟩
 |x::r,k,l,ids,h,hn=>by
  unfold xd
  split
  ·have h1:=q8w l x
   have h2:=qsd r (k+1) (oneF l x).2.2 (if 0<(oneF l x).1 then ids++[(oneF l x).1] else ids) (fun y hy=>h y (by simp [hy])) (by omega)
   exact⟨h2.1.trans (zcb (h x (by simp)) hn),h2.2⟩
  ·exact⟨rfl,hn⟩
theorem zae {id:Int} {b:List qs} (h:id∉vb b):∀ x∈b,x.kind≠3→x.id≠id:=fun x hx h3 he=>h (by
 unfold vb
 exact List.mem_map.2 ⟨x,List.mem_filter.2 ⟨hx,by simpa using h3⟩,he⟩)
theorem qok {id:Int}:∀ (bs:List (List qs)) (r:RunV),id∉bs.flatMap vb→id<r.l.next→rawG (kq bs r).2.l id=rawG r.l id
 | [],r,_,_=>rfl
 |b::q,r,h,hn=>by
  rw [List.flatMap_cons,List.mem_append] at h
  have hb:rawG (doF r.l b).2.1 id=rawG r.l id∧id<(doF r.l b).2.1.next:=by
   unfold doF
   split
   ·exact qsd b 0 r.l [] (zae fun h'=>h (.inl h')) hn
   ·exact⟨rfl,hn⟩
  unfold kq
  split
  ·exact (qok q _ (fun h'=>h (.inr h')) hb.2).trans hb.1
  ·rfl
theorem za1 {b:ve} {id:Int} (h:qjo b id=true) (hp:jr b.base = .no):∃ x,rawF (ofF (itsE b.base)) id=(x,true)∧rawF (ki b.base b.batches).2.l id=(x,true):=by
 unfold qjo at h
 obtain⟨h1,h2,h3⟩:=of_decide_eq_true h
 obtain⟨g1,e,he,hid⟩:=q89 h1
 rw [qhi h2] at h3
 have hids:=quv (itsE b.base) ⟨[],1,0⟩ (by decide) (by simp)
 have hlt:id<(ofF (itsE b.base)).next:=by rw [← hid];exact hids e he
 have hr:=qok b.batches ⟨ofF (itsE b.base),[],[]⟩ h3 hlt
 have hpl:(ki b.base b.batches).2=(kq b.batches ⟨ofF (itsE b.base),[],[]⟩).2:=by
  unfold ki
  rw [if_pos hp]
 rw [← hpl] at hr
 rw [q4b g1,q4b g1,hr]
 unfold rawG
 cases hf:(ofF (itsE b.base)).ents.find? fun e=>decide (e.id=id) with
 |none=>exact absurd (by simpa using hid) (List.find?_eq_none.1 hf e he)
 |some e'=>exact⟨e'.x.raw,rfl,rfl⟩
set_option maxHeartbeats 1000000 in
theorem q2w (b:ve) (id:Int) (st:List AObj) (hB:BkB b) (hp:jr b.base = .no):qo E 22 [yt b,Iv id] st fun r st'=>r=Bv (qjo b id)∧st'=st:=by
 refine zm [.a (yt b),.i id] (qr _) Tryz.func22 rfl rfl (fun _=>rfl) rfl fun S0=>?_
 have hbh:=fun st=>qm9 b 0 st hB (Nat.zero_le _)
 have hz:ki b.base (b.batches.take 0)=(.no,⟨ofF (itsE b.base),[],[]⟩):=by
  unfold ki
  rw [if_pos hp]
  try rfl
 have hl0:lR b 0=ofF (itsE b.base):=by unfold lR;rw [if_pos hp,hz]
 have hg0:gR b 0=[]:=by unfold gR;rw [hz,if_pos rfl]
 rw [hz,hl0,hg0] at hbh
 have hof:=fun st=>q9m b st hB
 have hpl:=fun st=>q07 (ofF (itsE b.base)) id st (by have:=(qk8 b.base).len;omega)
 have htc:=@qhi b.base b.batches
 have hcd:=@q6c b.base b.batches
 have hbl:=hB.len
 have hbt:=hB.bat
 unfold qjo
 generalize lR b b.batches.length=l1 at hof
 generalize qf0 (ofF (itsE b.base)) id=pl at hpl
 generalize ofF (itsE b.base)=l0 at hbh hpl
 generalize ki b.base b.batches=p at hof htc hcd
 obtain⟨e,l,g,tc⟩:=p
 dsimp only at htc hcd hof ⊢
 by_cases he:e = .no
 ·subst he
  rw [htc rfl]
  clear htc hcd hz hl0 hg0
  obtain⟨gen,base,bs,ends,tail⟩:=b
  dsimp only at hbl hbt hbh hof ⊢
  have hml:(bs.map jf).length=bs.length:=by simp
  have hsn:∀ k x,bs[k]? = some x→(bs.take (k+1)).flatMap vb=(bs.take k).flatMap vb++vb x:=fun k x hx=>by
   rw [List.take_add_one,hx]
   simp
  apply qd []
  repeat' (first|apply And.intro|(intro h;try exact cDd)|exact⟨Tryz.call34⟩|refine cpe hbh ?_|exact⟨Tryz.call51⟩|refine cpe hof ?_|exact⟨Tryz.call68⟩|refine cpe hpl ?_|exact cSd|apply qb []|refine exr ?_|refine qh ?_)
  refine ji (X:=Nat×Bool) (fun (k,ok)=>⟨[(1,.i id),(2,.a (.pp [Iv gen,Sv base,qcl bs,qai ends,Sv tail])),(12,.b ok),(13,.i k)],[],0⟩) (fun (k,ok)=>k≤bs.length∧(ok=true↔0≤pl∧id∉(bs.take k).flatMap vb)) (fun x=>bs.length - x.1) (0,decide (0≤pl)) ⟨by omega,by simp⟩ ?_ ?_
  ·skip
   repeat' (first|apply And.intro|(intro h;try exact cDd)|exact cSd|apply qb []|refine exr ?_|refine qh ?_)
   all_goals first|rfl|(simp;done)
  ·rintro⟨k,ok⟩ ⟨hk,hok⟩
   by_cases hkn:k<bs.length
   ·have hx:bs[k]? = some bs[k]:=List.getElem?_eq_getElem hkn
    have hxm:(bs.map jf)[k]? = some (jf bs[k]):=by rw [List.getElem?_map,hx];rfl
    have hs:=hsn k _ hx
    have hb5:=(hbt _ (List.getElem_mem hkn)).2
    generalize bs[k]=b at hx hxm hs hb5
    have hmb:(b.map jb).length=b.length:=by simp
    apply qd []
    repeat' (first|apply And.intro|(intro h;try exact cDd)|exact cSd|apply qb []|refine exr ?_|refine qh ?_)
    refine ji (X:=Nat×Bool) (fun (j,ok)=>⟨[(1,.i id),(2,.a (.pp [Iv gen,Sv base,qcl bs,qai ends,Sv tail])),(12,.b ok),(13,.i k),(14,.i j)],[],0⟩) (fun (j,ok)=>j≤b.length∧(ok=true↔0≤pl∧id∉(bs.take k).flatMap vb++vb (b.take j))) (fun x=>b.length - x.1) (0,ok) ⟨by omega,by simpa [vb] using hok⟩ ?_ ?_
    ·skip
     repeat' (first|apply And.intro|(intro h;try exact cDd)|exact cSd|apply qb []|refine exr ?_|refine qh ?_)
     all_goals first|rfl|(simp;done)
    ·rintro⟨j,ok2⟩ ⟨hj,hok2⟩
     by_cases hjn:j<b.length
     ·have hy:b[j]? = some b[j]:=List.getElem?_eq_getElem hjn
      have hym:(b.map jb)[j]? = some (jb b[j]):=by rw [List.getElem?_map,hy];rfl
      have htk:b.take (j+1)=b.take j++[b[j]]:=by rw [List.take_add_one,hy];rfl
      generalize b[j]=y at hy hym htk
      have ht2:vb (b.take (j+1))=vb (b.take j)++if y.kind=3 then [] else [y.id]:=by
       rw [htk]
       by_cases h3:y.kind=3 <;> simp [vb,h3]
      by_cases h3:y.kind=3
      ·rw [if_pos h3,List.append_nil] at ht2
       apply qd []
       repeat' (first|apply And.intro|(intro h;try exact cDd)|(refine Exists.intro (k) ⟨by omega,_,hxm,?_⟩)|(refine Exists.intro (j) ⟨by omega,_,hym,?_⟩)|(refine Exists.intro (j+1,ok2) ⟨⟨by omega,by rw [ht2];exact hok2⟩,by simp only;omega,?_⟩)|exact cSd|apply qb []|refine exr ?_|refine qh ?_)
       all_goals first|rfl|(simp [*];done)
      ·rw [if_neg h3] at ht2
       by_cases hi:y.id=id
       ·apply qd []
        repeat' (first|apply And.intro|(intro h;try exact cDd)|(refine Exists.intro (k) ⟨by omega,_,hxm,?_⟩)|(refine Exists.intro (j) ⟨by omega,_,hym,?_⟩)|(refine Exists.intro (j+1,false) ⟨⟨by omega,by rw [ht2];simp [hi]⟩,by simp only;omega,?_⟩)|exact cSd|apply qb []|refine exr ?_|refine qh ?_)
        all_goals first|rfl|(simp [*];done)
       ·have hi2:¬ id=y.id:=fun h=>hi h.symm
        apply qd []
        repeat' (first|apply And.intro|(intro h;try exact cDd)|(refine Exists.intro (k) ⟨by omega,_,hxm,?_⟩)|(refine Exists.intro (j) ⟨by omega,_,hym,?_⟩)|(refine Exists.intro (j+1,ok2) ⟨⟨by omega,by rw [ht2];simpa [hi2] using hok2⟩,by simp only;omega,?_⟩)|exact cSd|apply qb []|refine exr ?_|refine qh ?_)
        all_goals first|rfl|(simp [*];done)
     ·have hjn:j=b.length:=by omega
      subst hjn
      rw [List.take_length] at hok2
      apply qd []
      repeat' (first|apply And.intro|(intro h;try exact cDd)|(refine Exists.intro (k) ⟨by omega,_,hxm,?_⟩)|(refine Exists.intro (k+1,ok2) ⟨⟨by omega,by rw [hs];exact hok2⟩,by simp only;omega,?_⟩)|exact cSd|apply qb []|refine exr ?_|refine qh ?_)
   ·have hkn:k=bs.length:=by omega
    subst hkn
    rw [List.take_length] at hok
    have hfin:ok=decide (0≤pl∧ErrV.no=ErrV.no∧id∉bs.flatMap vb):=by
     rw [Bool.eq_iff_iff,hok]
     simp
    rw [← hfin]
    apply qd []
    repeat' (first|apply And.intro|(intro h;try exact cDd)|exact cSd|apply qb []|refine exr ?_|refine qh ?_)
 ·rw [decide_eq_false fun h=>he h.2.1]
  have hcd:=hcd he
  generalize e.code=c at hof hcd
  apply qd []
  repeat' (first|apply And.intro|(intro h;try exact cDd)|exact⟨Tryz.call34⟩|refine cpe hbh ?_|exact⟨Tryz.call51⟩|refine cpe hof ?_|exact⟨Tryz.call68⟩|refine cpe hpl ?_|exact cSd|apply qb []|refine exr ?_|refine qh ?_)
theorem q1a (text:qa) (id:Int) (st:List AObj):qo E 4 [Sv text,Iv id] st fun r st'=>r=Bv true∧st'=st:=by
 refine zm [.s text,.i id] (qr _) Tryz.func4 rfl rfl (fun _=>rfl) rfl fun S0=>?_
 have hal:=q67
 by_cases h4:4000<text.length
 ·apply qd []
  repeat' (first|apply And.intro|(intro h;try exact cDd)|exact⟨Tryz.call11⟩|refine cpe hal ?_|exact cSd|apply qb []|refine exr ?_|refine qh ?_)
 have hbr:=fun st=>qug text st (by omega)
 have hrr:=fun st=>q22 text st (by omega)
 unfold qcu at hrr
 have hcd:=@q47 text
 have hbi:=@qql text
 generalize vf text=q at hbr hrr hcd hbi
 obtain⟨e,b⟩:=q
 dsimp only at hbr hrr hcd
 cases e with
 |num n=>
  have hn:n≠0:=hcd (by simp)
  apply qd []
  repeat' (first|apply And.intro|(intro h;try exact cDd)|exact⟨Tryz.call11⟩|refine cpe hal ?_|exact⟨Tryz.call19⟩|refine cpe hbr ?_|exact⟨Tryz.call20⟩|refine cpe hrr ?_|exact cSd|apply qb []|refine exr ?_|refine qh ?_)
  all_goals first|(simp [ErrV.code,hn];done)|exact absurd (by assumption:(ErrV.num n).code=0) hn
 |at' a n=>
  have hn:n≠0:=hcd (by simp)
  apply qd []
  repeat' (first|apply And.intro|(intro h;try exact cDd)|exact⟨Tryz.call11⟩|refine cpe hal ?_|exact⟨Tryz.call19⟩|refine cpe hbr ?_|exact⟨Tryz.call20⟩|refine cpe hrr ?_|exact cSd|apply qb []|refine exr ?_|refine qh ?_)
  all_goals first|(simp [ErrV.code,hn];done)|exact absurd (by assumption:(ErrV.at' a n).code=0) hn
 |no=>
  have hT:=hbi (b:=b) rfl
  have hBk:=qyv hT
  have hp:=hT.parse
  have h1:=fun st=>zfg b id st hBk hp
  have h2:=fun st=>q2w b id st hBk hp
  cases hb:qjo b id with
  |false=>
   rw [hb] at h1 h2
   apply qd []
   repeat' (first|apply And.intro|(intro h;try exact cDd)|exact⟨Tryz.call11⟩|refine cpe hal ?_|exact⟨Tryz.call19⟩|refine cpe hbr ?_|exact⟨Tryz.call20⟩|refine cpe hrr ?_|exact⟨Tryz.call21⟩|refine cpe h1 ?_|exact⟨Tryz.call22⟩|refine cpe h2 ?_|exact cSd|apply qb []|refine exr ?_|refine qh ?_)
  |true=>
   obtain⟨x,hx1,hx2⟩:=za1 hb hp
   rw [hb] at h1 h2
   have hok:(ki b.base b.batches).1 = .no:=by
    unfold qjo at hb
    exact (of_decide_eq_true hb).2.1
   have hlb:=(zck b.base b.batches hBk.len).1.len
   have hl0:=(qk8 b.base).len
   have hbh:=fun st=>qol b 0 st hBk
   rw [qnp hp] at hbh
   have hof:=fun st=>zdo b st hBk
   rw [hok] at hof
   generalize (ki b.base b.batches).2.l=l1 at hof hx2 hlb
   generalize ofF (itsE b.base)=l0 at hbh hx1 hl0
   have hr1:=fun st=>zdn l0 id st (by omega)
   have hr2:=fun st=>zdn l1 id st (by omega)
   rw [hx1] at hr1
   rw [hx2] at hr2
   dsimp only at hr1 hr2
   replace hbh:∀ st,qo E 23 [yt b,Iv 0] st fun r st'=>r = .tu [vw l0,errA .no]∧st'=st:=hbh
   replace hof:∀ st,qo E 24 [yt b] st fun r st'=>r = .tu [vw l1,errA .no]∧st'=st:=hof
   apply qd []
   repeat' (first|apply And.intro|(intro h;try exact cDd)|exact⟨Tryz.call11⟩|refine cpe hal ?_|exact⟨Tryz.call19⟩|refine cpe hbr ?_|exact⟨Tryz.call20⟩|refine cpe hrr ?_|exact⟨Tryz.call21⟩|refine cpe h1 ?_|exact⟨Tryz.call22⟩|refine cpe h2 ?_|exact⟨Tryz.call23⟩|refine cpe hbh ?_|exact⟨Tryz.call24⟩|refine cpe hof ?_|exact⟨Tryz.call25⟩|refine cpe hr1 ?_|exact⟨Tryz.call25⟩|refine cpe hr2 ?_|exact cSd|apply qb []|refine exr ?_|refine qh ?_)
   all_goals first|rfl|(simp;done)
theorem q09 (text:qa) (id:Int) (hc : -9223372036854775808≤id∧id≤9223372036854775807) (st:List AObj):qo E 4 [Sv text,Iv id] st fun r st'=>r=Bv true∧st'=st:=q1a text id st
end Go.Proofs.YtmoklbacdkmkaaaGreatDoor
namespace Go.Pl
open Go
def i64 (n:Int):Prop:= -9223372036854775808≤n∧n≤9223372036854775807
end Go.Pl
