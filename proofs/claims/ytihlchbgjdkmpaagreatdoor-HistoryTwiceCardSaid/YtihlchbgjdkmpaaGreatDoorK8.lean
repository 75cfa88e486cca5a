/- Contracts and plain facts that the closing text leans on (part 8). No condition of their own beyond those that each states. -/
import Derived.Test.YtihlchbgjdkmpaaGreatDoorK7
set_option maxRecDepth 100000
set_option linter.unusedVariables false
set_option linter.unusedSimpArgs false
namespace Go.Proofs.YtihlchbgjdkmpaaGreatDoor
open Go Go.Av Go.RowKit Go.Proofs Go.Pl
structure RunV where
 l:qq
 given:List (List Int)
 touched:List Int
def qbp (b:List ql):List Int:=(b.filter fun x=>decide (x.kind≠3)).map fun x=>x.id
def y6 (r:RunV) (b:List ql):RunV:=⟨(doF r.l b).2.1,r.given++[(doF r.l b).2.2],r.touched++qbp b⟩
def zv:List (List ql)→RunV→ErrV×RunV
 | [],r=>(.no,r)
 |b::q,r=>if (doF r.l b).1 = .no then zv q (y6 r b) else (.at' r.given.length 10,r)
def jf (base:qa) (bs:List (List ql)):ErrV×RunV:=if yc base = .no then zv bs ⟨ofF (itsE base),[],[]⟩ else (yc base,⟨ofF [],[],[]⟩)
@[reducible] def qm5 (g : List (List Int)) : AV := .sl 1 (g.map yw) none
@[reducible] def runA (r : RunV) : AV := .pp [kf r.l, qm5 r.given, yw r.touched]
def q46 (r:ErrV×RunV):AV:=match r.1 with
 | .no=>.tu [runA r.2,errA .no]
 |e=>.tu [.v (.pointer none),errA e]
theorem qjt (g:List (List Int)):Pure (qm5 g):=qar fun x hx=>by
 obtain⟨f,_,rfl⟩:=List.mem_map.1 hx;intro y hy;simp only [AV.cells,List.mem_cons,List.not_mem_nil,or_false] at hy;rw [hy];exact qdb f
theorem q47 (r:ErrV×RunV):Pure (q46 r):=by
 unfold q46;split
 ·exact kc (qtw fun x hx=>by
   simp only [List.mem_cons,List.not_mem_nil,or_false] at hx;rcases hx with rfl|rfl|rfl
   ·exact qhe _
   ·exact qjt _
   ·exact qdb _) (jx _)
 ·exact kc (qt _) (jx _)
theorem qfk {n m:Nat} {l:qq} (h:LB n l) (hm:n≤m) (hs:m<900000):LB m l:=by
 have h1:=h.len;have h2:=h.nx0;have h3:=h.nx1;have h4:=h.mn0;have h5:=h.mn1;exact⟨hs,by omega,h2,by omega,by omega,by omega⟩
theorem quy:∀ (b:List ql) (k n:Nat) (l:qq) (ids:List Int),LB n l→n+b.length<900000→LB (n+b.length) (kw k b l ids).2.1
 | [],k,n,l,ids,h,_=>h
 |x::r,k,n,l,ids,h,hs=>by
  simp only [List.length_cons] at hs ⊢;unfold kw;split
  ·have:=quy r (k+1) (n+1) (oneF l x).2.2 (if 0<(oneF l x).1 then ids++[(oneF l x).1] else ids) (qof h (by omega) x) (by omega)
   rw [show n+(r.length+1)=n+1+r.length by omega];exact this
  ·have h1:=h.len;have h2:=h.nx0;have h3:=h.nx1;have h4:=h.mn0;have h5:=h.mn1
   exact⟨by omega,by simp only;omega,h2,by simp only;omega,by simp only;omega,by simp only;omega⟩
theorem qx1 {n:Nat} {l:qq} (h:LB n l) (hs:n+40<900000) (b:List ql):LB (n+40) (doF l b).2.1:=by
 unfold doF;split
 ·rename_i he
  obtain⟨h1,h2,_⟩:=qc8 he;exact qfk (quy b 0 n l [] h (by omega)) (by omega) hs
 ·exact qfk h (by omega) hs
theorem q7z:∀ (its:List za) (n:Nat) (l:qq),LB n l→n+its.length<900000→LB (n+its.length) (its.foldl xf l)
 | [],n,l,h,_=>h
 |x::r,n,l,h,hs=>by
  simp only [List.length_cons] at hs ⊢;rw [List.foldl_cons,show n+(r.length+1)=n+1+r.length by omega];refine q7z r (n+1) _ ?_ (by omega);have h1:=h.len;have h2:=h.nx0;have h3:=h.nx1;have h4:=h.mn0;have h5:=h.mn1;unfold xf;split
  ·exact⟨by omega,by simp;omega,by simp only;omega,by simp only;omega,by simp only;omega,by simp only;omega⟩
  ·exact⟨by omega,by simp;omega,h2,by simp only;omega,by simp only;omega,by simp only;omega⟩
theorem q7y (text:qa):LB 300000 (ofF (itsE text)):=by
 have h:=qyu text;have:=q7z (itsE text) 0 ⟨[],1,0⟩ ⟨by omega,by simp,by simp,by simp,by simp,by simp⟩ (by omega);exact qfk this (by omega) (by omega)
@[reducible] def runH (a : Nat) (r : RunV) : List (Nat × Option SR) := [(0, some (.cells 90 [.a (kf r.l), .tp a, .tp (a + 1)])), (a, some (.tip 1 24 (r.given.map yw))), (a + 1, some (.tip 1 3 (r.touched.map fun x => Iv x)))]
def BB (b:List ql):Prop:=b.length<1000000∧∀ x∈b,EdB x
theorem zer (n:Nat) (r:RunV) (b:List ql) (hB:LB n r.l) (hn:n+40<900000) (hg:r.given.length<1000000) (ht:r.touched.length<100000000) (hb:BB b) (hok:(doF r.l b).1 = .no):j8 E 67 [.bx 0 0,.a (zo b)] 3 (hpF (runH 1 r)) ⟨.a (.v .nilIface),ju (runH 1 r),runH 3 (y6 r b)++kz (runH 1 r),5⟩:=by
 refine wh [.bx 0 0,.a (zo b)] (runH 1 r) 3 (.a (.v .nilIface)) (runH 3 (y6 r b)) 5 Tryz.func67 rfl rfl rfl rfl fun S F ρ=>?_;have nz:=fun st=>q4i n r.l b st hB hn hb.2 hb.1;unfold y6;generalize doF r.l b=d at nz hok;obtain⟨e,l',ids⟩:=d;simp only at hok;subst hok;have tg:(r.given.map yw).length=r.given.length:=by simp
 have gf:=hb.1;apply qd [];repeat' (first|apply And.intro|(intro h;try exact cDd)|exact⟨Tryz.call70⟩|refine cpe nz ?_|exact cSd|apply qb []|refine exr ?_|refine qi ?_)
 refine w7 (X:=Nat) (fun k=>⟨[(0,.bx 0 0),(45,.a (zo b)),(46,.i b.length),(47,.i k)],[(0,some (.cells 90 [.a (kf l'),.tp 3,.tp 4])),(3,some (.tip 1 24 ((r.given++[ids]).map yw))),(4,some (.tip 1 3 ((r.touched++qbp (b.take k)).map fun x=>Iv x)))],5⟩)
  (fun k=>k≤b.length) (fun k=>b.length - k) 0 (by omega) ?_ ?_
 ·skip
  repeat' (first|apply And.intro|(intro h;try exact cDd)|exact cSd|apply qb []|refine exr ?_|refine qi ?_)
  all_goals (simp [qbp];done)
 ·rintro k hk
  by_cases i6:k<b.length
  ·have hx:b[k]? = some b[k]:=List.getElem?_eq_getElem i6
   have o8:(b.map vw)[k]? = some (vw b[k]):=by rw [List.getElem?_map,hx];rfl
   have bt:b.take (k+1)=b.take k++[b[k]]:=by rw [List.take_add_one,hx];rfl
   have htl:(qbp (b.take k)).length≤k:=by
    unfold qbp;rw [List.length_map];exact Nat.le_trans (List.length_filter_le _ _) (by simp;omega)
   generalize b[k]=x at hx o8 bt;by_cases h3:x.kind=3
   ·have e:qbp (b.take (k+1))=qbp (b.take k):=by rw [bt];simp [qbp,h3]
    apply qd [];repeat' (first|apply And.intro|(intro h;try exact cDd)|(refine Exists.intro (k) ⟨by omega,_,o8,?_⟩)|(refine Exists.intro (k+1) ⟨by omega,by omega,?_⟩)|exact cSd|apply qb []|refine exr ?_|refine qi ?_)
    all_goals (rw [e];done)
   ·have e:qbp (b.take (k+1))=qbp (b.take k)++[x.id]:=by rw [bt];simp [qbp,h3]
    apply qd [];repeat' (first|apply And.intro|(intro h;try exact cDd)|(refine Exists.intro (k) ⟨by omega,_,o8,?_⟩)|(refine Exists.intro (k+1) ⟨by omega,by omega,?_⟩)|exact cSd|apply qb []|refine exr ?_|refine qi ?_)
    all_goals first|(rw [e];simp;done)|(simp;omega)
  ·have i6:k=b.length:=by omega
   subst i6;rw [List.take_length];apply qd [];repeat' (first|apply And.intro|(intro h;try exact cDd)|exact cSd|apply qb []|refine exr ?_|refine qi ?_)
theorem zb2 (n:Nat) (r:RunV) (b:List ql) (hB:LB n r.l) (hn:n+40<900000) (hg:r.given.length<1000000) (hb:BB b) (hok:(doF r.l b).1≠.no):j8 E 67 [.bx 0 0,.a (zo b)] 3 (hpF (runH 1 r)) ⟨.a (errA (.at' r.given.length 10)),ju (runH 1 r),runH 3 r++kz (runH 1 r),5⟩:=by
 refine wh [.bx 0 0,.a (zo b)] (runH 1 r) 3 (.a (errA (.at' r.given.length 10))) (runH 3 r) 5 Tryz.func67 rfl rfl rfl rfl fun S F ρ=>?_;have nz:=fun st=>q4i n r.l b st hB hn hb.2 hb.1;have tg:(r.given.map yw).length=r.given.length:=by simp
 generalize doF r.l b=d at nz hok;obtain⟨e,l',ids⟩:=d;simp only at hok
 cases e with
 |no=>exact absurd rfl hok
 |num m=>
  apply qd [];repeat' (first|apply And.intro|(intro h;try exact cDd)|exact⟨Tryz.call70⟩|refine cpe nz ?_|exact cSd|apply qb []|refine exr ?_|refine qi ?_)
  all_goals (rw [tg];rfl)
 |at' a m=>
  apply qd [];repeat' (first|apply And.intro|(intro h;try exact cDd)|exact⟨Tryz.call70⟩|refine cpe nz ?_|exact cSd|apply qb []|refine exr ?_|refine qi ?_)
  all_goals (rw [tg];rfl)
theorem q24 (base:qa) (bs:List (List ql)) (st:List AObj) (hl:base.length<1000000) (hn:bs.length≤14000) (hb:∀ b∈bs,BB b∧b.length≤5000):qn E 37 [Sv base,qbx bs] st fun r st'=>r=q46 (jf base bs)∧st'=st:=by
 refine qlt [.s base,.a (qbx bs)] (q47 _) Tryz.func37 rfl rfl (fun _=>rfl) rfl fun S0=>?_;have hof:=fun st=>za6 base st hl;have pg:=q7y base;unfold jf;generalize itsE base=its at hof pg
 cases he:yc base with
 |num m=>
  rw [he] at hof;rw [if_neg (by simp)];apply qd [22]
  repeat' (first|apply And.intro|(intro h;try exact cDd)|exact⟨Tryz.call66⟩|refine cpe hof ?_|exact cSd|apply qb [22]|refine exr ?_|refine qi ?_)
 |at' a m=>
  rw [he] at hof;rw [if_neg (by simp)];apply qd [22]
  repeat' (first|apply And.intro|(intro h;try exact cDd)|exact⟨Tryz.call66⟩|refine cpe hof ?_|exact cSd|apply qb [22]|refine exr ?_|refine qi ?_)
 |no=>
  rw [he] at hof;rw [if_pos rfl];apply qd [22];repeat' (first|apply And.intro|(intro h;try exact cDd)|exact⟨Tryz.call66⟩|refine cpe hof ?_|exact cSd|apply qb [22]|refine exr ?_|refine qi ?_)
  refine w7 (X:=Nat×RunV) (fun (k,r)=>⟨[(8,.bx 0 0),(23,.a (qbx bs)),(24,.i bs.length),(25,.i k)],[(0,some (.cells 90 [.a (kf r.l),.tp 1,.tp 2])),(1,some (.tip 1 24 (r.given.map yw))),(2,some (.tip 1 3 (r.touched.map fun x=>Iv x)))],3⟩)
   (fun (k,r)=>k≤bs.length∧LB (300000+40 * k) r.l∧r.given.length=k∧r.touched.length≤5000 * k∧zv (bs.drop k) r=zv bs ⟨ofF its,[],[]⟩) (fun (k,r)=>bs.length - k) (0,⟨ofF its,[],[]⟩) ⟨by omega,pg,rfl,by simp,rfl⟩ ?_ ?_
  ·skip
   repeat' (first|apply And.intro|(intro h;try exact cDd)|exact cSd|apply qb []|refine exr ?_|refine qi ?_)
   all_goals (simp;done)
  ·rintro⟨k,r⟩ ⟨hk,hq,tg,htl,a8⟩
   by_cases i6:k<bs.length
   ·have hx:bs[k]? = some bs[k]:=List.getElem?_eq_getElem i6
    have o8:(bs.map zo)[k]? = some (zo bs[k]):=by rw [List.getElem?_map,hx];rfl
    obtain⟨hbb,hb5⟩:=hb bs[k] (List.getElem_mem i6);rw [List.drop_eq_getElem_cons i6,zv] at a8;generalize bs[k]=b at hx o8 hbb hb5 a8;have hlb2:=qx1 hq (by omega) b;by_cases hok:(doF r.l b).1 = .no
    ·rw [if_pos hok] at a8
     have bt:=zer (300000+40 * k) r b hq (by omega) (by omega) (by omega) hbb hok;have hgl2:(y6 r b).given.length=k+1:=by simp [y6,tg]
     have htl2:(y6 r b).touched.length≤5000 * (k+1):=by
      have:(qbp b).length≤b.length:=by
       unfold qbp;rw [List.length_map];exact List.length_filter_le _ _
      simp only [y6,List.length_append];omega
     have tj:LB (300000+40 * (k+1)) (y6 r b).l:=qfk hlb2 (by omega) (by omega);generalize y6 r b=r2 at bt a8 hgl2 htl2 tj;apply qd [];repeat' (first|apply And.intro|(intro h;try exact cDd)|(refine Exists.intro (k) ⟨by omega,_,o8,?_⟩)|exact⟨Tryz.call67⟩|(refine zy bt ?_)|(refine Exists.intro (k+1,r2) ⟨⟨by omega,tj,hgl2,htl2,a8⟩,by simp only;omega,?_⟩)|exact cSd|apply qb []|refine exr ?_|refine qi ?_)
    ·rw [if_neg hok] at a8
     rw [← a8];have bt:=zb2 (300000+40 * k) r b hq (by omega) (by omega) hbb hok;apply qd [];repeat' (first|apply And.intro|(intro h;try exact cDd)|(refine Exists.intro (k) ⟨by omega,_,o8,?_⟩)|exact⟨Tryz.call67⟩|(refine zy bt ?_)|exact cSd|apply qb []|refine exr ?_|refine qi ?_)
   ·have i6:k=bs.length:=by omega
    subst i6;rw [List.drop_length,zv] at a8;rw [← a8];apply qd [];repeat' (first|apply And.intro|(intro h;try exact cDd)|exact cSd|apply qb []|refine exr ?_|refine qi ?_)
structure BkB (b:jp):Prop where
 base:b.base.length<1000000
 len:b.batches.length≤14000
 bat:∀ x∈b.batches,BB x∧x.length≤5000
theorem q8k (b:List ql):9≤(recE b).length:=by
 unfold recE recF qi7;simp [zu];omega
theorem qlv:∀ r:List (List ql),9 * r.length≤(kl r).length
 | []=>by simp [kl]
 |b::r=>by
  have h1:=qlv r;have h2:=q8k b;rw [ym];simp only [List.length_append,List.length_cons];omega
theorem qcs {text:qa} {b:jp} (h:vu text b):BkB b:=by
 have h1:=congrArg List.length h.split;have h2:=h.len;have h3:=qlv b.batches;simp only [List.length_append,yf] at h1;refine⟨by omega,by omega,fun x hx=>?_⟩;obtain⟨g1,g2,_⟩:=qc8 (h.good x hx).ok;exact⟨⟨by omega,(h.good x hx).B⟩,by omega⟩
def yt (b:jp) (n:Int):ErrV×RunV:=if n<0∨(b.batches.length:Int)<n then (.num 1,⟨ofF [],[],[]⟩) else jf b.base (b.batches.take n.toNat)
theorem qnq (b:jp) (n:Int) (st:List AObj) (hB:BkB b):qn E 10 [qaj b,Iv n] st fun r st'=>r=qsg (yt b n).1 (yt b n).2.l∧st'=st:=by
 refine zx [.a (qaj b),.i n] (qjy _ _) Tryz.func10 rfl rfl (fun _=>rfl) rfl fun S0=>?_;have gf:=hB.len;have o7:(b.batches.map zo).length=b.batches.length:=by simp
 unfold yt;by_cases hn:n<0∨(b.batches.length:Int)<n
 ·rw [if_pos hn]
  apply qd [];repeat' (first|apply And.intro|(intro h;try exact cDd)|exact cSd|apply qb []|refine exr ?_|refine qi ?_)
 ·rw [if_neg hn]
  obtain⟨k,rfl⟩:∃ k:Nat,n=(k:Int):=⟨n.toNat,by omega⟩;rw [Int.toNat_natCast];have hp:=fun st=>q24 b.base (b.batches.take k) st hB.base (by simp;omega) (fun x hx=>hB.bat x (List.mem_of_mem_take hx));unfold qbx at hp;rw [List.map_take] at hp;generalize jf b.base (b.batches.take k)=p at hp;obtain⟨e,r⟩:=p
  cases e with
  |no=>
   apply qd []
   repeat' (first|apply And.intro|(intro h;try exact cDd)|exact⟨Tryz.call37⟩|refine cpe hp ?_|exact cSd|apply qb []|refine exr ?_|refine qi ?_)
  |num m=>
   apply qd []
   repeat' (first|apply And.intro|(intro h;try exact cDd)|exact⟨Tryz.call37⟩|refine cpe hp ?_|exact cSd|apply qb []|refine exr ?_|refine qi ?_)
  |at' a m=>
   apply qd [];repeat' (first|apply And.intro|(intro h;try exact cDd)|exact⟨Tryz.call37⟩|refine cpe hp ?_|exact cSd|apply qb []|refine exr ?_|refine qi ?_)
theorem zgy (b:jp) (st:List AObj) (hB:BkB b):qn E 36 [qaj b] st fun r st'=>r=qsg (jf b.base b.batches).1 (jf b.base b.batches).2.l∧st'=st:=by
 refine zx [.a (qaj b)] (qjy _ _) Tryz.func36 rfl rfl (fun _=>rfl) rfl fun S0=>?_;have o7:(b.batches.map zo).length=b.batches.length:=by simp
 have e:yt b (((b.batches.map zo).length:Nat):Int)=jf b.base b.batches:=by
  unfold yt;rw [o7,if_neg (by omega),Int.toNat_natCast,List.take_length]
 have hp:=fun st=>qnq b (((b.batches.map zo).length:Nat):Int) st hB;rw [e] at hp;generalize jf b.base b.batches=p at hp;obtain⟨er,r⟩:=p
 cases er with
 |no=>
  apply qd []
  repeat' (first|apply And.intro|(intro h;try exact cDd)|exact⟨Tryz.call10⟩|refine cpe hp ?_|exact cSd|apply qb []|refine exr ?_|refine qi ?_)
 |num m=>
  apply qd []
  repeat' (first|apply And.intro|(intro h;try exact cDd)|exact⟨Tryz.call10⟩|refine cpe hp ?_|exact cSd|apply qb []|refine exr ?_|refine qi ?_)
 |at' a m=>
  apply qd [];repeat' (first|apply And.intro|(intro h;try exact cDd)|exact⟨Tryz.call10⟩|refine cpe hp ?_|exact cSd|apply qb []|refine exr ?_|refine qi ?_)
def jn (text:qa):ErrV×jp×qq:=if (jt text).1 = .no then (if (jf (jt text).2.base (jt text).2.batches).1 = .no then (.no,(jt text).2,(jf (jt text).2.base (jt text).2.batches).2.l) else ((jf (jt text).2.base (jt text).2.batches).1,qev,ofF [])) else ((jt text).1,qev,ofF [])
def qnt (r:ErrV×jp×qq):AV:=match r.1 with
 | .no=>.tu [qaj r.2.1,kf r.2.2,errA .no]
 |e=>.tu [qaj r.2.1,.v (.pointer none),errA e]
theorem q1o (r:ErrV×jp×qq):Pure (qnt r):=by
 unfold qnt;split
 ·exact qij (qg6 _) (qhe _) (jx _)
 ·exact qij (qg6 _) (qt _) (jx _)
theorem qkj (text:qa) (st:List AObj) (hl:text.length<1000000):qn E 9 [Sv text] st fun r st'=>r=qnt (jn text)∧st'=st:=by
 refine zx [.s text] (q1o _) Tryz.func9 rfl rfl (fun _=>rfl) rfl fun S0=>?_;have cr:=fun st=>q16 text st hl;have mw:(jt text).1 = .no→BkB (jt text).2:=fun h=>qcs (qkw (text:=text) (b:=(jt text).2) (by rw [← h]));unfold jn;generalize jt text=q at cr mw;obtain⟨e,b⟩:=q
 cases e with
 |num m=>
  rw [if_neg (by simp)];apply qd []
  repeat' (first|apply And.intro|(intro h;try exact cDd)|exact⟨Tryz.call35⟩|refine cpe cr ?_|exact cSd|apply qb []|refine exr ?_|refine qi ?_)
 |at' a m=>
  rw [if_neg (by simp)];apply qd []
  repeat' (first|apply And.intro|(intro h;try exact cDd)|exact⟨Tryz.call35⟩|refine cpe cr ?_|exact cSd|apply qb []|refine exr ?_|refine qi ?_)
 |no=>
  rw [if_pos rfl];have hof:=fun st=>zgy b st (mw rfl);dsimp only;generalize jf b.base b.batches=p at hof;obtain⟨e,r⟩:=p
  cases e with
  |no=>
   rw [if_pos rfl];apply qd []
   repeat' (first|apply And.intro|(intro h;try exact cDd)|exact⟨Tryz.call35⟩|refine cpe cr ?_|exact⟨Tryz.call36⟩|refine cpe hof ?_|exact cSd|apply qb []|refine exr ?_|refine qi ?_)
  |num m=>
   rw [if_neg (by simp)];apply qd []
   repeat' (first|apply And.intro|(intro h;try exact cDd)|exact⟨Tryz.call35⟩|refine cpe cr ?_|exact⟨Tryz.call36⟩|refine cpe hof ?_|exact cSd|apply qb []|refine exr ?_|refine qi ?_)
  |at' a m=>
   rw [if_neg (by simp)];apply qd [];repeat' (first|apply And.intro|(intro h;try exact cDd)|exact⟨Tryz.call35⟩|refine cpe cr ?_|exact⟨Tryz.call36⟩|refine cpe hof ?_|exact cSd|apply qb []|refine exr ?_|refine qi ?_)
end Go.Proofs.YtihlchbgjdkmpaaGreatDoor
namespace Go.Pl
open Go Go.Proofs Go.Proofs.YtihlchbgjdkmpaaGreatDoor
def trL (ls:List qa):List (qa×Bool):=ls.map fun s=>(s,true)
def now0:za:=⟨2,[],[]⟩
def blkR:Bool→za→List qa→Option za
 | _,now,[]=>some now
 |prev,now,t::r=>
  if jz prev t true (trL r) now.fields.length 0≠0∨qs t=1 then none
  else if qs t=4 then blkR true ⟨3,now.raw++t++[10],now.fields++[(jr (t::vj (trL r))).1]⟩ r
  else blkR (decide (qs t=3)) ⟨now.kind,now.raw++t++[10],now.fields⟩ r
def qwq:List (qa×Bool)→Prop
 | []=>True
 |(t,_)::_=>qs t=1
theorem qjb:∀ (ls:List qa) (rest:List (qa×Bool)),qwq rest→vj (trL ls++rest)=vj (trL ls)
 | [],[],_=>rfl
 | [],(t,e)::r,h=>by
  have h:qs t=1:=h
  show (if qs t=3 then _ else _)=_
  rw [if_neg (by omega)]
  rfl
 |t::r,rest,h=>by
  show (if qs t=3 then t::vj (trL r++rest) else [])=(if qs t=3 then t::vj (trL r) else [])
  rw [qjb r rest h]
theorem ql8 (prev:Bool) (t:qa) (ls:List qa) (rest:List (qa×Bool)) (n:Nat) (rec:Int) (h:qwq rest):jz prev t true (trL ls++rest) n rec=jz prev t true (trL ls) n rec:=by
 unfold jz;rw [qjb ls rest h]
theorem q9n {prev:Bool} {t:qa} {L:List (qa×Bool)} {n:Nat} {rec:Int} (h:jz prev t true L n 0=0) (hr:qs t=4→n=0→rec<400):jz prev t true L n rec=0:=by
 unfold jz at h ⊢;split
 ·rename_i h1;rw [if_pos h1] at h;exact h
 ·rename_i h1
  rw [if_neg h1] at h;split
  ·rfl
  ·rename_i h4
   rw [if_neg h4] at h;split
   ·rename_i hu;rw [if_pos hu] at h;exact h
   ·rename_i hu
    rw [if_neg hu] at h;have h4:=Classical.not_not.1 h4;rw [if_neg];intro hh;rcases hh with hh|hh
    ·rw [if_pos (.inl hh)] at h;omega
    ·have:=hr h4 hh.1;omega
theorem qs9 {prev:Bool} {t:qa} {e:Bool} {L:List (qa×Bool)} {n:Nat} {rec:Int} (h:jz prev t e L n rec=0):jz prev t e L n 0=0:=by
 unfold jz at h ⊢;split
 ·rename_i h1;rw [if_pos h1] at h;exact h
 ·rename_i h1
  rw [if_neg h1] at h;split
  ·rfl
  ·rename_i h4
   rw [if_neg h4] at h;split
   ·rename_i hu;rw [if_pos hu] at h;exact h
   ·rename_i hu
    rw [if_neg hu] at h;rw [if_neg];intro hh;rcases hh with hh|hh
    ·rw [if_pos (.inl hh)] at h;omega
    ·omega
theorem q9m {prev:Bool} {t:qa} {e:Bool} {L:List (qa×Bool)} {n:Nat} {rec:Int} (h:jz prev t e L n rec=0):e=true∧10∉t:=by
 unfold jz at h;split at h
 ·omega
 ·rename_i h1
  refine⟨by cases e with|true=>rfl|false=>exact absurd (.inr (.inr rfl)) h1,fun i3=>h1 (.inl ?_)⟩;unfold qs;rw [if_pos i3]
theorem qpo {prev:Bool} {t:qa} {L:List (qa×Bool)} {n:Nat} {rec:Int} (h:qs t=1):jz prev t true L n rec=0:=by
 unfold jz;rw [if_neg (by simp [h]),if_pos (by omega)]
theorem qiy:∀ (ls:List qa) (prev:Bool) (now x:za),blkR prev now ls=some x→now.kind=3→x.kind=3
 | [],_,now,x,h,hk=>by cases h;exact hk
 |t::r,prev,now,x,h,hk=>by
  rw [blkR] at h;split at h
  ·cases h
  ·split at h
   ·exact qiy r _ _ _ h rfl
   ·exact qiy r _ _ _ h hk
theorem qn7:∀ (ls:List qa) (prev:Bool) (now x:za),blkR prev now ls=some x→x.raw=now.raw++zg ls
 | [],_,now,x,h=>by cases h;simp [zg]
 |t::r,prev,now,x,h=>by
  rw [blkR] at h;split at h
  ·cases h
  ·split at h
   ·rw [qn7 r _ _ _ h,wv];simp
   ·rw [qn7 r _ _ _ h,wv];simp
def qml (x:za):Prop:=x.kind=3∧x.fields≠[]∨x.kind=2∧x.fields=[]
theorem qj7:∀ (ls:List qa) (k:Nat) (prev:Bool) (now x:za) (rec:Int) (out:List za) (rest:List (qa×Bool)),qwq rest→blkR prev now ls=some x→qml now→(now.kind=2→x.kind=3→rec<400) →
  (∃ prev',refL k (trL ls++rest) prev now rec out=refL (k+ls.length) rest prev' x (if now.kind=2∧x.kind=3 then rec+1 else rec) out)∧qml x
 | [],k,prev,now,x,rec,out,rest,hs,h,hk,hr=>by
  cases h
  refine⟨⟨prev,?_⟩,hk⟩;rw [if_neg (by omega)]
  rfl
 |t::r,k,prev,now,x,rec,out,rest,hs,h,hk,hr=>by
  rw [blkR] at h;split at h
  ·cases h
  ·rename_i hc
   simp only [not_or,Classical.not_not] at hc
   have hrec:qs t=4→now.fields.length=0→rec<400:=fun h4 h0=>by
    rw [if_pos h4] at h;rcases hk with hk|hk
    ·exact absurd (List.length_eq_zero_iff.1 h0) hk.2
    ·exact hr hk.1 (qiy r _ _ _ h rfl)
   have hw:jz prev t true (trL r++rest) now.fields.length rec=0:=by
    rw [ql8 _ _ _ _ _ _ hs];exact q9n hc.1 hrec
   have d8:trL (t::r)++rest=(t,true)::(trL r++rest):=rfl;rw [d8,refL,if_neg (by simp [hw]),if_neg hc.2];split at h
   ·rename_i h4
    rw [if_pos h4,qjb r rest hs];have hx3:=qiy r _ _ _ h rfl;obtain⟨⟨p',e⟩,hkx⟩:=qj7 r (k+1) _ _ x (if now.kind=2 then rec+1 else rec) out rest hs h (.inl ⟨rfl,by simp⟩) (by simp);refine⟨⟨p',?_⟩,hkx⟩;rw [e,if_neg (by simp)];simp only [hx3,and_true,List.length_cons];congr 1;omega
   ·rename_i h4
    rw [if_neg h4];obtain⟨⟨p',e⟩,hkx⟩:=qj7 r (k+1) _ _ x rec out rest hs h hk hr;refine⟨⟨p',?_⟩,hkx⟩;rw [e,List.length_cons];congr 1;omega
theorem qtz:∀ (L:List (qa×Bool)) (k:Nat) (prev:Bool) (now:za) (rec:Int) (out its:List za),refL k L prev now rec out=(none,its) →
  ∃ (ls:List qa) (rest:List (qa×Bool)) (prev':Bool) (x:za) (rec':Int) (k':Nat),L=trL ls++rest∧qwq rest∧blkR prev now ls=some x∧refL k' rest prev' x rec' out=(none,its)∧∀ t∈ls,10∉t
 | [],k,prev,now,rec,out,its,h=>⟨[],[],prev,now,rec,k,rfl,trivial,rfl,h,by simp⟩
 |(t,e)::r,k,prev,now,rec,out,its,h=>by
  have h0:=h;rw [refL] at h;split at h
  ·simp at h
  ·rename_i hw
   have hw:=Classical.not_not.1 hw;obtain⟨rfl,i3⟩:=q9m hw;split at h
   ·rename_i h1
    exact⟨[],(t,true)::r,prev,now,rec,k,rfl,h1,rfl,h0,by simp⟩
   ·rename_i h1
    split at h
    ·rename_i h4
     obtain⟨ls,rest,p',x,rc,k',rfl,hs,hb,hr,lg⟩:=qtz r _ _ _ _ _ _ h;rw [qjb ls rest hs] at hb;rw [ql8 _ _ _ _ _ _ hs] at hw;refine⟨t::ls,rest,p',x,rc,k',rfl,hs,?_,hr,by simpa using ⟨i3,lg⟩⟩;rw [blkR,if_neg (by simp [qs9 hw,h1]),if_pos h4];exact hb
    ·rename_i h4
     obtain⟨ls,rest,p',x,rc,k',rfl,hs,hb,hr,lg⟩:=qtz r _ _ _ _ _ _ h;rw [ql8 _ _ _ _ _ _ hs] at hw;refine⟨t::ls,rest,p',x,rc,k',rfl,hs,?_,hr,by simpa using ⟨i3,lg⟩⟩;rw [blkR,if_neg (by simp [qs9 hw,h1]),if_neg h4];exact hb
def yo (x:za):Prop:=(∃ t,x=⟨1,t++[10],[]⟩∧qs t=1)∨∃ ls,ls≠[]∧blkR false now0 ls=some x∧∀ t∈ls,10∉t
theorem qvl (out:List za):outR now0 out=out:=rfl
theorem qvb {t:qa} (h:qs t=1):10∉t:=fun i3=>by
 unfold qs at h;rw [if_pos i3] at h;omega
theorem q8v:∀ (n:Nat) (L:List (qa×Bool)) (k:Nat) (rec:Int) (out its:List za),L.length≤n→refL k L false now0 rec out=(none,its)→(∀ x∈out,yo x)→∀ x∈its,yo x:=by
 intro n
 induction n with
 |zero=>
  intro L k rec out its hn h ho;have:L=[]:=List.length_eq_zero_iff.1 (by omega);subst this;have h:(none,outR now0 out)=(none,its):=h;simp only [Prod.mk.injEq,true_and] at h;subst h
  exact ho
 |succ n ih=>
  intro L k rec out its hn h ho;obtain⟨ls,rest,p',x,rc,k',rfl,hs,hb,hr,lg⟩:=qtz L _ _ _ _ _ _ h
  have hout:∀ y∈outR x out,yo y:=fun y hy=>by
   unfold outR at hy;split at hy
   ·exact ho y hy
   ·rename_i hx
    rcases List.mem_append.1 hy with hy|hy
    ·exact ho y hy
    ·simp only [List.mem_cons,List.not_mem_nil,or_false] at hy
     subst hy;refine .inr ⟨ls,fun e=>hx ?_,hb,lg⟩;subst e
     cases hb
     rfl
  cases rest with
  |nil=>
   have hr:(none,outR x out)=(none,its):=hr;simp only [Prod.mk.injEq,true_and] at hr;subst hr
   exact hout
  |cons y r=>
   obtain⟨t,e⟩:=y;have h1:qs t=1:=hs;rw [refL] at hr;split at hr
   ·simp at hr
   ·try rw [if_pos h1] at hr
    refine ih r _ _ _ _ (by simp at hn;omega) hr fun y hy=>?_;rcases List.mem_append.1 hy with hy|hy
    ·exact hout y hy
    ·simp only [List.mem_cons,List.not_mem_nil,or_false] at hy
     subst hy;exact .inl ⟨t,rfl,h1⟩
theorem qnn {text:qa} (h:(jk text).1=none):∀ x∈(jk text).2,yo x:=by
 refine q8v _ (zl text) 0 0 [] _ (Nat.le_refl _) ((qf3 text).trans (Prod.ext h rfl)) (by simp)
theorem q07 {fs:List Fld} (hg:GF fs) (b9:fs≠[]):yo ⟨3,ke fs,fs⟩:=by
 have h:=qsn hg b9;exact qnn (by rw [h]) _ (by rw [h];simp)
def SepI:List za→Prop
 | []=>True
 | [_]=>True
 |x::y::r=>(x.kind≠1→y.kind=1)∧SepI (y::r)
def cntI (its:List za):Nat:=its.countP fun x=>x.kind=3
theorem qng:∀ (ls:List qa) (R:qa),(∀ s∈ls,10∉s)→zl (zg ls++R)=trL ls++zl R
 | [],R,_=>rfl
 |s::r,R,h=>by
  have hs:=h s (by simp);have e:zg (s::r)++R=s++10::(zg r++R):=by rw [wv];simp
  rw [e,v8 (by simp),xj _ hs,yi _ hs,qng r R fun x hx=>h x (by simp [hx])];simp [trL]
theorem qpe {t:qa} {R:qa} (h:10∉t):zl (t++[10]++R)=(t,true)::zl R:=by
 have:=qng [t] R (by simpa using h)
 simpa [zg,trL] using this
theorem qpb {x:za} (h:yo x):x.kind=1∧(∃ t,x=⟨1,t++[10],[]⟩∧qs t=1)∨qml x∧x.raw≠[]∧∃ ls,ls≠[]∧blkR false now0 ls=some x∧∀ t∈ls,10∉t:=by
 rcases h with⟨t,rfl,ht⟩ | ⟨ls,b9,hb,lg⟩
 ·exact .inl ⟨rfl,t,rfl,ht⟩
 ·refine .inr ⟨(qj7 ls 0 false now0 x 0 [] [] trivial hb (.inr ⟨rfl,rfl⟩) (by omega)).2,?_,ls,b9,hb,lg⟩
  rw [qn7 _ _ _ _ hb]
  cases ls with
  |nil=>exact absurd rfl b9
  |cons t r=>simp [zg,now0]
theorem qll:∀ (its:List za) (k:Nat) (rec:Int) (out:List za),(∀ x∈its,yo x)→SepI its→rec+cntI its≤400→refL k (zl (vr its)) false now0 rec out=(none,out++its)
 | [],k,rec,out,_,_,_=>by
  have:vr []=[]:=rfl;rw [this,vi]
  simp [refL,qvl]
 |x::r,k,rec,out,hok,tw,hc=>by
  have hraw:vr (x::r)=x.raw++vr r:=rfl;rw [hraw];rcases qpb (hok x (by simp)) with⟨gw,t,rfl,ht⟩ | ⟨hkx,hrx,ls,b9,hb,lg⟩
  ·rw [qpe (qvb ht),refL,if_neg (by rw [qpo ht];simp),if_pos ht,qvl]
   have hs:SepI r:=by cases r with|nil=>trivial|cons y q=>exact tw.2
   have:=qll r (k+1) rec (out++[⟨1,t++[10],[]⟩]) (fun y hy=>hok y (by simp [hy])) hs (by simpa [cntI] using hc);rw [show (⟨2,[],[]⟩:za)=now0 from rfl,this];simp
  ·have tz:x.kind≠1:=by rcases hkx with h|h <;> omega
   have hc3:x.kind=3→rec<400:=fun h=>by simp [cntI,h] at hc;omega
   have tv:x.raw=zg ls:=by rw [qn7 _ _ _ _ hb];rfl
   rw [tv,qng ls _ lg]
   match r,hok,tw,hc with
   | [],hok,tw,hc=>
    have:vr []=[]:=rfl;rw [this,vi];obtain⟨⟨p',e⟩,_⟩:=qj7 ls k false now0 x rec out [] trivial hb (.inr ⟨rfl,rfl⟩) fun _ h=>hc3 h;rw [e,refL];unfold outR
    rw [if_neg hrx]
   |y::q,hok,tw,hc=>
    have hy1:=tw.1 tz;rcases qpb (hok y (by simp)) with⟨_,t,rfl,ht⟩ | ⟨hky,_⟩
    ·have hraw:vr (⟨1,t++[10],[]⟩::q)=(t++[10])++vr q:=rfl
     rw [hraw,qpe (qvb ht)];obtain⟨⟨p',e⟩,_⟩:=qj7 ls k false now0 x rec out ((t,true)::zl (vr q)) ht hb (.inr ⟨rfl,rfl⟩) fun _ h=>hc3 h;rw [e,refL,if_neg (by rw [qpo ht];simp),if_pos ht];have hs:SepI q:=by cases q with|nil=>trivial|cons z q'=>exact tw.2.2
     have ho:outR x out=out++[x]:=by unfold outR;rw [if_neg hrx]
     rw [ho,show (⟨2,[],[]⟩:za)=now0 from rfl]
     have rm:(if now0.kind=2∧x.kind=3 then rec+1 else rec)+(cntI q:Int)≤400:=by
      simp only [cntI,List.countP_cons] at hc ⊢;by_cases h3:x.kind=3
      ·rw [if_pos ⟨rfl,h3⟩]
       simp [h3] at hc;omega
      ·rw [if_neg fun h=>h3 h.2]
       simp [h3] at hc;omega
     rw [qll q _ _ _ (fun y hy=>hok y (by simp [hy])) hs rm];simp
    ·exfalso
     rcases hky with h|h <;> omega
theorem qaf (a b:List za):cntI (a++b)=cntI a+cntI b:=by simp [cntI]
theorem wp (x:za) (b:List za):cntI (x::b)=(if x.kind=3 then 1 else 0)+cntI b:=by
 simp only [cntI,List.countP_cons,decide_eq_true_eq];omega
theorem quf:∀ (its:List za) (prev:Bool),SepI (kp prev its)∧(prev=true→∀ x,(kp prev its).head? = some x→x.kind=1)
 | [],prev=>⟨trivial,by simp [kp]⟩
 |x::r,prev=>by
  obtain⟨h1,h2⟩:=quf r (decide (x.kind≠1))
  have key:SepI (x::kp (decide (x.kind≠1)) r):=by
   cases hq:kp (decide (x.kind≠1)) r with
   |nil=>trivial
   |cons y q=>
    rw [hq] at h1 h2;exact⟨fun hk=>h2 (by simpa using hk) y rfl,h1⟩
  rw [kp];by_cases hp:prev=true∧x.kind≠1
  ·rw [if_pos hp]
   exact⟨⟨fun h=>absurd rfl h,key⟩,fun _ y hy=>by simp at hy;subst hy;rfl⟩
  ·rw [if_neg hp]
   exact⟨key,fun hpr y hy=>by
    simp at hy;subst hy
    exact Classical.byContradiction fun h=>hp ⟨hpr,h⟩⟩
theorem qxj:∀ (its:List za) (prev:Bool),(∀ x∈its,yo x)→(∀ x∈kp prev its,yo x)∧cntI (kp prev its)=cntI its
 | [],prev,_=>by simp [kp]
 |x::r,prev,h=>by
  obtain⟨h1,h2⟩:=qxj r (decide (x.kind≠1)) fun y hy=>h y (by simp [hy]);have hx:=h x (by simp);have gf:yo ⟨1,[10],[]⟩:=.inl ⟨[],rfl,by decide⟩;rw [kp];split
  ·refine⟨fun y hy=>?_,by simp only [List.cons_append,List.nil_append,wp];rw [h2];try simp⟩
   simp only [List.cons_append,List.nil_append,List.mem_cons] at hy;rcases hy with rfl|rfl|hy
   ·exact gf
   ·exact hx
   ·exact h1 y hy
  ·refine⟨fun y hy=>?_,by simp only [List.cons_append,List.nil_append,wp];rw [h2];try simp⟩
   simp only [List.cons_append,List.nil_append,List.mem_cons] at hy;rcases hy with rfl|hy
   ·exact hx
   ·exact h1 y hy
theorem qzl {its:List za} (h:∀ x∈its,yo x) (hc:cntI its≤400):jk (vr (qae its))=(none,qae its):=by
 obtain⟨h1,h2⟩:=qxj its false h;have:=qll (qae its) 0 0 [] h1 (quf its false).1 (by unfold qae;rw [h2];omega);rw [List.nil_append] at this;rw [← qf3];exact this
theorem qzh {now:za} {out:List za} (hk:qml now) (hr:now.kind=3→now.raw≠[]):(cntI (outR now out):Int)=(cntI out:Int)+(if now.kind=3 then 1 else 0):=by
 have h0:cntI []=0:=rfl;unfold outR;by_cases he:now.raw=[]
 ·rw [if_pos he,if_neg fun h=>hr h he]
  omega
 ·rw [if_neg he,qaf,wp,h0]
  by_cases h3:now.kind=3
  ·rw [if_pos h3,if_pos h3];omega
  ·rw [if_neg h3,if_neg h3];omega
theorem qoi:∀ (L:List (qa×Bool)) (k:Nat) (prev:Bool) (now:za) (rec:Int) (out its:List za),refL k L prev now rec out=(none,its)→qml now→(now.kind=3→now.raw≠[])→(cntI out:Int)+(if now.kind=3 then 1 else 0)=rec→rec≤400→cntI its≤400
 | [],k,prev,now,rec,out,its,h,hk,hr,hc,hm=>by
  have h:(none,outR now out)=(none,its):=h;simp only [Prod.mk.injEq,true_and] at h;subst h;have:=qzh (out:=out) hk hr
  omega
 |(t,e)::r,k,prev,now,rec,out,its,h,hk,hr,hc,hm=>by
  rw [refL] at h;split at h
  ·simp at h
  ·rename_i hw
   have hw:=Classical.not_not.1 hw;split at h
   ·refine qoi r _ _ _ _ _ _ h (.inr ⟨rfl,rfl⟩) (by simp) ?_ hm
    have:=qzh (out:=out) hk hr;rw [qaf,wp,show cntI []=0 from rfl,if_neg (by omega:¬ (1:Int)=3),if_neg (by omega:¬ (2:Int)=3)];omega
   ·split at h
    ·rename_i h4
     refine qoi r _ _ _ _ _ _ h (.inl ⟨rfl,by simp⟩) (by simp) ?_ ?_
     ·rcases hk with hk|hk
      ·rw [if_pos hk.1] at hc
       rw [if_pos rfl,if_neg (by omega)];exact hc
      ·rw [if_neg (by omega)] at hc
       rw [if_pos rfl,if_pos hk.1];omega
     ·rcases hk with hk|hk
      ·rw [if_neg (by omega)];exact hm
      ·rw [if_pos hk.1]
       unfold jz at hw;split at hw
       ·omega
       ·rw [if_neg (by omega)] at hw
        split at hw
        ·omega
        ·split at hw
         ·omega
         ·rename_i hf
          have:now.fields.length=0:=by rw [hk.2];rfl
          omega
    ·exact qoi r _ _ _ _ _ _ h hk (fun h3=>by simp) hc hm
theorem q8a {text:qa} (h:(jk text).1=none):cntI (jk text).2≤400:=
 qoi (zl text) 0 false now0 0 [] _ ((qf3 text).trans (Prod.ext h rfl)) (.inr ⟨rfl,rfl⟩) (by simp [now0]) (by simp [cntI,now0]) (by omega)
structure GL (l:qq):Prop where
 ok:∀ e∈l.ents,yo e.x∧(0<e.id↔e.x.kind=3)
 nx:1≤l.next
 mn:l.many=cntI (ja l)
 le:cntI (ja l)≤400
theorem q71 {l:qq} {x:za} (h:GL l) (hx:yo x) (hc:cntI (ja l)+cntI [x]≤400):GL (xf l x):=by
 obtain⟨h1,h2,h3,h4⟩:=h;rw [wp] at hc;unfold xf;by_cases hk:x.kind=3
 ·rw [if_pos hk]
  refine⟨fun e he=>?_,by simp only;omega,?_,?_⟩
  ·rcases List.mem_append.1 he with he|he
   ·exact h1 e he
   ·simp only [List.mem_cons,List.not_mem_nil,or_false] at he
    subst he;exact⟨hx,fun _=>hk,fun _=>by show 0<l.next;omega⟩
  ·simp only [ja,List.map_append,qaf,List.map_cons,List.map_nil,wp] at h3 ⊢
   rw [if_pos hk];simp [cntI] at h3 ⊢;omega
  ·rw [if_pos hk] at hc
   simp only [ja,List.map_append,qaf,List.map_cons,List.map_nil,wp] at hc ⊢;rw [if_pos hk];exact hc
 ·rw [if_neg hk]
  refine⟨fun e he=>?_,h2,?_,?_⟩
  ·rcases List.mem_append.1 he with he|he
   ·exact h1 e he
   ·simp only [List.mem_cons,List.not_mem_nil,or_false] at he
    subst he;exact⟨hx,by simp [hk]⟩
  ·simp only [ja,List.map_append,qaf,List.map_cons,List.map_nil,wp] at h3 ⊢
   rw [if_neg hk];simp [cntI] at h3 ⊢;omega
  ·rw [if_neg hk] at hc
   simp only [ja,List.map_append,qaf,List.map_cons,List.map_nil,wp] at hc ⊢;rw [if_neg hk];exact hc
theorem q1c (l:qq) (x:za):ja (xf l x)=ja l++[x]:=by
 unfold xf ja;split <;> simp
theorem qvj:∀ (its:List za) (l:qq),GL l→(∀ x∈its,yo x)→cntI (ja l)+cntI its≤400→GL (its.foldl xf l)
 | [],l,h,_,_=>h
 |x::r,l,h,hx,hc=>by
  rw [wp] at hc;refine qvj r (xf l x) (q71 h (hx x (by simp)) ?_) (fun y hy=>hx y (by simp [hy])) ?_
  ·rw [wp,show cntI []=0 from rfl];omega
  ·rw [q1c,qaf,wp]
   rw [show cntI []=0 from rfl];omega
theorem zf7 {its:List za} (hx:∀ x∈its,yo x) (hc:cntI its≤400):GL (ofF its):=
 qvj its ⟨[],1,0⟩ ⟨by simp,by simp,by simp [ja,cntI],by simp [ja,cntI]⟩ hx (by simpa [ja,cntI] using hc)
theorem qzo {fs:List Fld} (h:zw fs = .no):yo (x2 fs)∧(x2 fs).kind=3:=by
 obtain⟨h1,h2,h3⟩:=qc7 h;unfold x2;rw [if_pos h];exact⟨q07 ⟨h2,h3⟩ h1,rfl⟩
theorem qmx {l:List za} {i:Nat} {x:za} (h:l[i]? = some x):cntI l=cntI (l.take i)+(if x.kind=3 then 1 else 0)+cntI (l.drop (i+1)):=by
 obtain⟨d9,rfl⟩:=List.getElem?_eq_some_iff.1 h;have:=congrArg cntI (List.take_append_drop i l);rw [qaf,List.drop_eq_getElem_cons d9,wp] at this;omega
theorem qzw {l:qq} (h:GL l) (id:Int) (fs:List Fld):GL (wu l id fs).2:=by
 unfold wu;split
 ·exact h
 ·rename_i ha
  split
  ·rename_i hf
   obtain⟨hp,hp3⟩:=qzo hf;rcases qhy l id with g | ⟨i,e,g1,g2,g3,g4⟩
   ·omega
   ·rw [g1,Int.toNat_natCast]
    unfold qf4;rw [g2];simp only;have hem:=List.mem_of_getElem? g2;obtain⟨d9,dj⟩:=List.getElem?_eq_some_iff.1 g2;have hek:e.x.kind=3:=(h.ok e hem).2.1 (by omega)
    have hcnt:cntI ((l.ents.set i ⟨x2 fs,e.id⟩).map fun e=>e.x)=cntI (l.ents.map fun e=>e.x):=by
     have a1:=qmx (l:=l.ents.map fun e=>e.x) (i:=i) (x:=e.x) (by simp [g2]);have a2:=qmx (l:=(l.ents.set i ⟨x2 fs,e.id⟩).map fun e=>e.x) (i:=i) (x:=x2 fs) (by simp [d9]);rw [a1,a2,← List.map_take,← List.map_take,← List.map_drop,← List.map_drop,List.take_set_of_le (Nat.le_refl _),List.drop_set_of_lt (by omega),hek,hp3]
    refine⟨fun y hy=>?_,h.nx,?_,?_⟩
    ·rcases List.mem_or_eq_of_mem_set hy with hy|rfl
     ·exact h.ok y hy
     ·exact⟨hp,fun _=>hp3,fun _=>by show 0<e.id;omega⟩
    ·exact h.mn.trans (congrArg Int.ofNat hcnt).symm
    ·exact Nat.le_trans (Nat.le_of_eq hcnt) h.le
  ·exact h
theorem q2a {l:qq} (h:GL l) (id:Int):GL (delF l id).2:=by
 unfold delF;split
 ·exact h
 ·rcases qhy l id with g | ⟨i,e,g1,g2,g3,g4⟩
  ·omega
  ·rw [g1,Int.toNat_natCast]
   have hem:=List.mem_of_getElem? g2;have hek:e.x.kind=3:=(h.ok e hem).2.1 (by omega);have a1:=qmx (l:=ja l) (i:=i) (x:=e.x) (by simp [ja,g2]);rw [hek,if_pos rfl] at a1
   have a2:cntI (ja (delL l i))=cntI ((ja l).take i)+cntI ((ja l).drop (i+1)):=by
    unfold delL ja;rw [List.map_append,qaf,List.map_take,List.map_drop]
   have hm:=h.mn;have hl:=h.le;refine⟨fun y hy=>?_,h.nx,?_,?_⟩
   ·rcases List.mem_append.1 hy with hy|hy
    ·exact h.ok y (List.mem_of_mem_take hy)
    ·exact h.ok y (List.mem_of_mem_drop hy)
   ·rw [a2]
    show l.many - 1=_
    omega
   ·rw [a2]
    omega
theorem q2m {l:qq} (h:GL l) (id:Int) (fs:List Fld):GL (insF l id fs).2.2:=by
 unfold insF;split
 ·exact h
 ·split
  ·rename_i hf
   obtain⟨hp,hp3⟩:=qzo hf;split
   ·exact h
   ·rename_i hm4
    generalize (atF l id+1).toNat=k
    have a1:cntI (ja (insL l k (x2 fs)))=cntI (ja l)+1:=by
     unfold insL ja;rw [List.map_append,qaf,List.map_cons,wp,hp3,if_pos rfl,List.map_take,List.map_drop];have:=congrArg cntI (List.take_append_drop k (l.ents.map fun e=>e.x));rw [qaf] at this;omega
    have hm:=h.mn;have hl:=h.le;have hn:=h.nx;refine⟨fun y hy=>?_,?_,?_,?_⟩
    ·rcases List.mem_append.1 hy with hy|hy
     ·exact h.ok y (List.mem_of_mem_take hy)
     ·rcases List.mem_cons.1 hy with rfl|hy
      ·exact⟨hp,fun _=>hp3,fun _=>by show 0<l.next;omega⟩
      ·exact h.ok y (List.mem_of_mem_drop hy)
    ·show 1≤l.next+1
     omega
    ·rw [a1]
     show l.many+1=_
     omega
    ·rw [a1]
     omega
  ·exact h
theorem qtt {l:qq} (h:GL l) (x:ql):GL (oneF l x).2.2:=by
 unfold oneF;split
 ·exact qzw h _ _
 ·split
  ·exact q2a h _
  ·exact q2m h _ _
theorem quw:∀ (b:List ql) (k:Nat) (l:qq) (ids:List Int),GL l→GL (kw k b l ids).2.1
 | [],_,l,_,h=>h
 |x::r,k,l,ids,h=>by
  unfold kw;split
  ·exact quw r _ _ _ (qtt h x)
  ·exact h
theorem qx0 {l:qq} (h:GL l) (b:List ql):GL (doF l b).2.1:=by
 unfold doF;split
 ·exact quw b 0 l [] h
 ·exact h
theorem qpg:∀ (bs:List (List ql)) (r:RunV),GL r.l→GL (zv bs r).2.l
 | [],r,h=>h
 |b::bs,r,h=>by
  unfold zv;split
  ·exact qpg bs _ (qx0 h b)
  ·first|exact qx0 h b|exact h
theorem q1k {text:qa} (h:yc text = .no):(jk text).1=none∧text.length≤60000∧itsE text=(jk text).2:=by
 unfold yc at h;unfold itsE;split at h
 ·simp at h
 ·rename_i hl
  rw [if_neg hl];refine⟨?_,by omega,rfl⟩
  cases hp:(jk text).1 with
  |none=>rfl
  |some x=>rw [hp] at h;simp at h
theorem qzq (base:qa) (bs:List (List ql)) (h:yc base = .no):GL (jf base bs).2.l:=by
 obtain⟨h1,h2,h3⟩:=q1k h;unfold jf;rw [if_pos h];refine qpg bs _ (zf7 ?_ ?_)
 ·rw [h3];exact qnn h1
 ·rw [h3];exact q8a h1
end Go.Pl
namespace Go.Pl
open Go Go.Proofs
def cntF (es:List EntV):Nat:=es.countP fun e=>decide (0<e.id)
theorem quq (es:List EntV) (e:EntV):cntF (es++[e])=cntF es+if 0<e.id then 1 else 0:=by
 unfold cntF;rw [List.countP_append];by_cases h:0<e.id <;> simp [h]
end Go.Pl
namespace Go.Pl
open Go Go.Proofs Go.Av
def LM (l:qq):Prop:=l.many=cntF l.ents
theorem qfe (a b:List EntV):cntF (a++b)=cntF a+cntF b:=by simp [cntF]
theorem qi0 (e:EntV) (b:List EntV):cntF (e::b)=(if 0<e.id then 1 else 0)+cntF b:=by
 by_cases h:0<e.id <;> simp [cntF,h] <;> omega
theorem q6u {l:List EntV} {i:Nat} {e:EntV} (h:l[i]? = some e):l=l.take i++e::l.drop (i+1):=by
 obtain⟨hi,rfl⟩:=List.getElem?_eq_some_iff.1 h;rw [← List.drop_eq_getElem_cons hi,List.take_append_drop]
theorem zb0 {l:qq} (h:LM l) (id:Int) (fs:List Fld):LM (wu l id fs).2:=by
 unfold wu;split
 ·exact h
 ·split
  ·unfold qf4
   split
   ·rename_i e he
    unfold LM at h ⊢;simp only;rw [h];have h1:=q6u he;have hi:=lt_of_getElem? he;rw [List.set_eq_take_append_cons_drop,if_pos hi]
    conv=>lhs;rw [h1]
    rw [qfe,qfe,qi0,qi0]
   ·exact h
  ·exact h
theorem zdn {l:qq} (h:LM l) (id:Int):LM (delF l id).2:=by
 unfold delF;split
 ·exact h
 ·rename_i hn
  rcases qhy l id with g | ⟨i,e,g,he,bz,hid1⟩
  ·exact absurd (by rw [g];decide) hn
  ·rw [g,Int.toNat_natCast]
   unfold LM delL at *;simp only;rw [h];have h1:=q6u he
   conv=>lhs;rw [h1]
   rw [qfe,qfe,qi0,if_pos (by omega)];omega
theorem zd4 {l:qq} (h:LM l) (hn:1≤l.next) (id:Int) (fs:List Fld):LM (insF l id fs).2.2:=by
 unfold insF;split
 ·exact h
 ·split
  ·split
   ·exact h
   ·unfold LM insL at *
    simp only;rw [h,qfe,qi0,if_pos (by simp only;omega)]
    conv=>lhs;rw [← List.take_append_drop (atF l id+1).toNat l.ents]
    rw [qfe];omega
  ·exact h
theorem qzd:∀ (its:List za) (l:qq),LM l→1≤l.next→LM (its.foldl xf l)∧1≤(its.foldl xf l).next
 | [],l,h,hn=>⟨h,hn⟩
 |x::r,l,h,hn=>by
  rw [List.foldl_cons];unfold xf;split
  ·refine qzd r _ ?_ (by simp only;omega)
   unfold LM at *;simp only;rw [quq,if_pos (by simp only;omega),h];omega
  ·refine qzd r _ ?_ hn
   unfold LM at *;simp only;rw [quq,if_neg (by simp),h];omega
theorem zf9 (its:List za):LM (ofF its):=(qzd its ⟨[],1,0⟩ (by simp [LM,cntF]) (by decide)).1
end Go.Pl
namespace Go.Proofs.YtihlchbgjdkmpaaGreatDoor
open Go Go.Av Go.RowKit Go.Proofs Go.Pl
theorem zek {l:qq} (h:LM l) (hn:1≤l.next) (x:ql):LM (oneF l x).2.2:=by
 unfold oneF;split
 ·exact zb0 h _ _
 ·split
  ·exact zdn h _
  ·exact zd4 h hn _ _
theorem qu0:∀ (b:List ql) (k n:Nat) (l:qq) (ids:List Int),LM l→LB n l→n+b.length<900000→LM (kw k b l ids).2.1
 | [],k,n,l,ids,h,_,_=>h
 |x::r,k,n,l,ids,h,hB,hs=>by
  simp only [List.length_cons] at hs;unfold kw;split
  ·exact qu0 r (k+1) (n+1) _ _ (zek h hB.nx0 x) (qof hB (by omega) x) (by omega)
  ·exact h
theorem zfp {n:Nat} {l:qq} (h:LM l) (hB:LB n l) (hs:n+40<900000) (b:List ql):LM (doF l b).2.1:=by
 unfold doF;split
 ·rename_i he
  obtain⟨h1,h2,_⟩:=qc8 he;exact qu0 b 0 n l [] h hB (by omega)
 ·exact h
end Go.Proofs.YtihlchbgjdkmpaaGreatDoor
namespace Go.Pl
open Go Go.Proofs Go.Proofs.YtihlchbgjdkmpaaGreatDoor
theorem qsr (x:za) (r:List za):vr (x::r)=x.raw++vr r:=by simp [vr]
theorem zbq {its:List za} {x:za} (h:x∈its):x.raw.length≤(vr its).length:=by
 induction its with
 |nil=>simp at h
 |cons y r ih=>
  rw [qsr,List.length_append];rcases List.mem_cons.1 h with rfl|h
  ·omega
  ·have:=ih h
   omega
structure PR (m:Nat) (p:PSt):Prop where
 tot:(vr p.items).length+(zg p.block).length≤m
 fl:∀ x∈p.items,x.fields.length<900000
theorem qm3 {m:Nat} {p:PSt} (h:PR m p):PR m (jj p).2:=by
 unfold jj;split
 ·exact h
 ·split
  ·exact h
  ·split
   ·exact h
   ·exact⟨h.tot,h.fl⟩
theorem q6t {m:Nat} {p:PSt} (h:PR m p) (hf:p.fields.length<900000):PR m (xn p):=by
 have ht:=h.tot;unfold xn;split
 ·exact⟨by simp only [zg,List.flatMap_nil,List.length_nil];omega,h.fl⟩
 ·refine⟨?_,fun x hx=>?_⟩
  ·simp only [qei,qej,List.length_append]
   simp only [zg,List.flatMap_nil,List.length_nil] at ht ⊢;omega
  ·simp only [List.mem_append,List.mem_singleton] at hx
   rcases hx with hx|rfl
   ·exact h.fl x hx
   ·exact hf
theorem qtm {m n:Nat} {p:PSt} (h:PR m p) (hB:PB n p) (hs:n+1<900000):PR m (endP p).2:=by
 unfold endP;split
 ·exact h
 ·have:=(qgc hB hs).fields
  exact q6t (qm3 h) (by omega)
theorem q50 {m n:Nat} {p:PSt} {no:Int} {text:qa} {ended:Bool} {kind:Int} (h:PR m p) (hB:PB n p) (hs:n+1<900000):PR m (je p no text ended kind).2:=by
 unfold je;split
 ·split
  ·exact h
  ·split
   ·exact⟨h.tot,h.fl⟩
   ·exact qm3 ⟨h.tot,h.fl⟩
 ·split
  ·exact qtm h hB hs
  ·exact qm3 h
theorem qa2 (a b:List qa):zg (a++b)=zg a++zg b:=by simp [zg]
theorem zce {m n:Nat} {p:PSt} {no:Int} {text:qa} {ended:Bool} (h:PR m p) (hB:PB n p) (hs:n+1<900000):PR (m+text.length+1) (we p no text ended).2:=by
 have more:∀ {q:PSt},PR m q→PR (m+text.length+1) q:=fun h=>⟨by have:=h.tot;omega,h.fl⟩;have h2:PR m (je p no text ended (qs text)).2:=q50 h hB hs;have ht:=h2.tot;unfold we;split
 ·exact more h
 ·split
  ·exact more h
  ·split
   ·refine⟨?_,fun x hx=>?_⟩
    ·simp only [qei,qej,List.length_append,List.length_cons,List.length_nil]
     omega
    ·simp only [List.mem_append,List.mem_singleton] at hx
     rcases hx with hx|rfl
     ·exact h2.fl x hx
     ·simp
   ·split
    ·refine⟨?_,h2.fl⟩
     simp only [ki,qa2,List.length_append];simp only [zg,List.flatMap_cons,List.flatMap_nil,List.length_append,List.length_cons,List.length_nil] at ht ⊢;omega
    ·refine⟨?_,h2.fl⟩
     simp only [qa2,List.length_append];simp only [zg,List.flatMap_cons,List.flatMap_nil,List.length_append,List.length_cons,List.length_nil] at ht ⊢;omega
theorem zes:∀ (n:Nat) (rest:qa) (k m:Nat) (p:PSt),rest.length≤n→PB (4 * k) p→PR m p→k+rest.length≤60000→PR (m+2 * rest.length) (runL k (zl rest) p).2:=by
 intro n
 induction n with
 |zero=>
  intro rest k m p hr hB hR hk;obtain rfl:rest=[]:=List.eq_nil_of_length_eq_zero (by omega);rw [vi,runL]
  exact qtm hR hB (by omega)
 |succ n ih=>
  intro rest k m p hr hB hR hk;by_cases b9:rest=[]
  ·subst b9
   rw [vi,runL];exact qtm hR hB (by omega)
  ·have hu:=vb 10 rest
   have fc:=km 10 rest;have hr0:0<rest.length:=List.length_pos_iff.2 b9;rw [v8 b9];simp only [runL];have fg:=qqq (no:=k) (text:=upto 10 rest) (ended:=decide (10∈rest)) hB (by omega) (by omega);have gr:=zce (no:=k) (text:=upto 10 rest) (ended:=decide (10∈rest)) hR hB (by omega);split
   ·exact⟨by have:=hR.tot;simp only;omega,hR.fl⟩
   ·have:=ih (past 10 rest) (k+1) _ _ (by omega) fg gr (by omega)
    exact⟨by have:=this.tot;omega,this.fl⟩
theorem zd5 (text:qa):(vr (itsE text)).length≤120000∧∀ x∈itsE text,x.fields.length<900000:=by
 unfold itsE;split
 ·simp [vr]
 ·have h:=zes text.length text 0 0 p0 (Nat.le_refl _) q43 ⟨by simp [p0,vr,zg],by simp [p0]⟩ (by omega)
  unfold jk;split
  ·simp [vr]
  ·have:=h.tot
   exact⟨by simp only;omega,h.fl⟩
def LI (l:qq):Prop:=∀ e∈l.ents,e.x.raw.length≤1000000∧e.x.fields.length<900000
theorem q70:∀ (its:List za) (l:qq),LI l→(∀ x∈its,x.raw.length≤1000000∧x.fields.length<900000)→LI (its.foldl xf l)
 | [],l,h,_=>h
 |x::r,l,h,hx=>by
  rw [List.foldl_cons];refine q70 r _ ?_ fun y hy=>hx y (by simp [hy]);have h1:=hx x (by simp);unfold xf;split
  ·intro e he
   simp only [List.mem_append,List.mem_singleton] at he;rcases he with he|rfl
   ·exact h e he
   ·exact h1
  ·intro e he
   simp only [List.mem_append,List.mem_singleton] at he;rcases he with he|rfl
   ·exact h e he
   ·exact h1
theorem zf8 (text:qa):LI (ofF (itsE text)):=by
 obtain⟨h1,h2⟩:=zd5 text;refine q70 _ _ (by simp [LI]) fun x hx=>⟨?_,h2 x hx⟩;have:=zbq hx;omega
theorem qvq (fs:List Fld):(x2 fs).raw.length≤1000000∧(x2 fs).fields.length<900000:=by
 unfold x2;split
 ·rename_i h
  obtain⟨_,g1,g2⟩:=qc7 h;have:=qgd fs g2;exact⟨by simp only;omega,by simp only;omega⟩
 ·exact⟨by simp,by simp⟩
theorem zbz {l:qq} (h:LI l) (id:Int) (fs:List Fld):LI (wu l id fs).2:=by
 unfold wu;split
 ·exact h
 ·split
  ·unfold qf4
   split
   ·intro y hy
    rcases List.mem_or_eq_of_mem_set hy with hy|rfl
    ·exact h y hy
    ·exact qvq fs
   ·exact h
  ·exact h
theorem zdm {l:qq} (h:LI l) (id:Int):LI (delF l id).2:=by
 unfold delF;split
 ·exact h
 ·intro y hy
  simp only [delL,List.mem_append] at hy;rcases hy with hy|hy
  ·exact h y (List.mem_of_mem_take hy)
  ·exact h y (List.mem_of_mem_drop hy)
theorem zd3 {l:qq} (h:LI l) (id:Int) (fs:List Fld):LI (insF l id fs).2.2:=by
 unfold insF;split
 ·exact h
 ·split
  ·split
   ·exact h
   ·intro y hy
    simp only [insL,List.mem_append,List.mem_cons] at hy;rcases hy with hy|rfl|hy
    ·exact h y (List.mem_of_mem_take hy)
    ·exact qvq fs
    ·exact h y (List.mem_of_mem_drop hy)
  ·exact h
theorem qrf:∀ (its:List za) (b:Bool),(∀ x∈its,x.raw.length≤1000000)→(vr (kp b its)).length≤1000001 * its.length
 | [],b,h=>by simp [kp,vr]
 |x::r,b,h=>by
  have ih:=qrf r (decide (x.kind≠1)) fun y hy=>h y (by simp [hy]);have hx:=h x (by simp);rw [kp,qei,List.length_append];split
  ·rw [qsr,qej]
   simp only [List.length_append,List.length_cons,List.length_nil];omega
  ·rw [qej]
   simp only [List.length_cons];omega
theorem q0g {n:Nat} {l:qq} (hB:LB n l) (h:LI l):(qok l).length≤1000000000000:=by
 have h1:=qrf (ja l) false fun x hx=>by
  obtain⟨e,he,rfl⟩:=List.mem_map.1 hx;exact (h e he).1
 have h2:=hB.len;have h3:=hB.small;unfold qok qae;have:(ja l).length=l.ents.length:=by simp [ja]
 omega
end Go.Pl
namespace Go.Proofs.YtihlchbgjdkmpaaGreatDoor
open Go Go.Av Go.RowKit Go.Proofs Go.Pl
theorem q2x {l:qq} (h:LI l) (x:ql):LI (oneF l x).2.2:=by
 unfold oneF;split
 ·exact zbz h _ _
 ·split
  ·exact zdm h _
  ·exact zd3 h _ _
theorem quz:∀ (b:List ql) (k:Nat) (l:qq) (ids:List Int),LI l→LI (kw k b l ids).2.1
 | [],k,l,ids,h=>h
 |x::r,k,l,ids,h=>by
  unfold kw;split
  ·exact quz r (k+1) _ _ (q2x h x)
  ·exact h
theorem zfo {l:qq} (h:LI l) (b:List ql):LI (doF l b).2.1:=by
 unfold doF;split
 ·exact quz b 0 l [] h
 ·exact h
theorem q2p {n:Nat} {l:qq} (hB:LB n l) (h:LI l):ItsB (ja l):=by
 have h1:=hB.len;have h2:=hB.small;refine⟨by simp [ja];omega,fun x hx=>?_⟩;obtain⟨e,he,rfl⟩:=List.mem_map.1 hx;have:=(h e he).2;omega
theorem qvr {base:qa}:∀ (bs:List (List ql)) (k:Nat) (r:RunV),k+bs.length≤14000→LB (300000+40 * k) r.l→LM r.l→LI r.l→LB 860000 (zv bs r).2.l∧LM (zv bs r).2.l∧LI (zv bs r).2.l
 | [],k,r,hk,h1,h2,h3=>⟨qfk h1 (by simp at hk;omega) (by omega),h2,h3⟩
 |b::q,k,r,hk,h1,h2,h3=>by
  simp only [List.length_cons] at hk;unfold zv;split
  ·exact qvr (base:=base) q (k+1) _ (by omega) (qfk (qx1 h1 (by omega) b) (by omega) (by omega)) (zfp h2 h1 (by omega) b) (zfo h3 b)
  ·exact⟨qfk h1 (by omega) (by omega),h2,h3⟩
theorem qfn (base:qa) (bs:List (List ql)) (h:bs.length≤14000):LB 860000 (jf base bs).2.l∧LM (jf base bs).2.l∧LI (jf base bs).2.l:=by
 unfold jf;split
 ·exact qvr (base:=base) bs 0 _ (by omega) (q7y base) (zf9 _) (zf8 base)
 ·exact⟨⟨by omega,by simp [ofF],by simp [ofF],by simp [ofF],by simp [ofF],by simp [ofF]⟩,by simp [ofF,LM,cntF],by simp [ofF,LI]⟩
theorem q8s {text:qa} (h:(jt text).1 = .no):BkB (jt text).2:=qcs (qkw (text:=text) (b:=(jt text).2) (by rw [← h]))
def qep:qa:=[65,58,32,49,10]
theorem qsw (text:qa):LB 860000 (jn text).2.2∧LI (jn text).2.2:=by
 have h0:LB 860000 (ofF [])∧LI (ofF []):=⟨⟨by omega,by simp [ofF],by simp [ofF],by simp [ofF],by simp [ofF],by simp [ofF]⟩,by simp [ofF,LI]⟩;unfold jn;split
 ·rename_i hb
  have hBk:=q8s hb;split
  ·have:=qfn (jt text).2.base (jt text).2.batches hBk.len
   exact⟨this.1,this.2.2⟩
  ·exact h0
 ·exact h0
end Go.Proofs.YtihlchbgjdkmpaaGreatDoor
namespace Go.Pl
open Go Go.Proofs
def qaz:List EntV→Option (EntV×List EntV)
 | []=>none
 |e::r=>if 0<e.id then some (e,r) else qaz r
def stzF (es:List EntV):List (Int×List Fld):=(es.filter fun e=>decide (0<e.id)).map fun e=>(e.id,e.x.fields)
theorem qlg:∀ {r:List EntV},qaz r=none→stzF r=[]
 | [],_=>rfl
 |e::r,h=>by
  unfold qaz at h;split at h
  ·simp at h
  ·rename_i h0
   have:=qlg h
   simpa [stzF,h0] using this
theorem qlh:∀ {r:List EntV} {e:EntV} {q:List EntV},qaz r=some (e,q)→0<e.id∧e∈r∧stzF r=(e.id,e.x.fields)::stzF q∧q.length<r.length∧∀ y∈q,y∈r
 |x::r,e,q,h=>by
  unfold qaz at h;split at h
  ·rename_i h0
   simp only [Option.some.injEq,Prod.mk.injEq] at h;obtain⟨rfl,rfl⟩:=h;exact⟨h0,by simp,by simp [stzF,h0],by simp,fun y hy=>by simp [hy]⟩
  ·rename_i h0
   obtain⟨h1,h2,h3,h4,h5⟩:=qlh h;exact⟨h1,by simp [h2],by simpa [stzF,h0] using h3,by simp;omega,fun y hy=>by simp [h5 y hy]⟩
end Go.Pl
namespace Go.Proofs.YtihlchbgjdkmpaaGreatDoor
open Go Go.Av Go.RowKit Go.Proofs Go.Pl
theorem zgb {m:Nat} {T:TypeId} {S':List AObj} {cs0:List AV} (h:S'.length=m∨∃ cs,S'[m]? = some (.cells 0 T cs)):∃ cs,(S'++[AObj.cells 0 T cs0])[m]? = some (.cells 0 T cs):=by
 rcases h with rfl | ⟨cs,h⟩
 ·exact⟨cs0,by simp⟩
 ·exact⟨cs,by rw [List.getElem?_append_left (lt_of_getElem? h)];exact h⟩
theorem zgc {m:Nat} {T:TypeId} {S':List AObj} (h:S'.length=m∨∃ cs,S'[m]? = some (.cells 0 T cs)):m≤S'.length:=by
 rcases h with rfl | ⟨cs,h⟩
 ·omega
 ·exact Nat.le_of_lt (lt_of_getElem? h)
theorem qkl {L:List (Tmp×AV)} {st:List AObj} {df:List Nat} {s:AS} (h:StA L st df s):StA L (st++[]) df s:=by
 rw [List.append_nil];exact h
theorem zcy (l:qq) (o kb n m:Nat) (I:List EntV→List AObj→Prop) (D:List AObj→Prop) (S:List AObj) (hm:S.length=m) (hn:n≤m) (hl:l.ents.length<1000000) (h0:I l.ents S)
  (hI:∀ r S',I r S'→S'[kb]? = some (.cells 0 27 [kf l]))
  (d8:∀ r S' S'',Ext n S' S''→I r S'→I r S'')
  (hY:∀ r e q S' cs,I r S'→S'[m]? = some (.cells 0 100 cs)→qaz r=some (e,q)→xk E o [entA e] S' fun b S''=>S''[m]? = some (.cells 0 100 cs)∧(b=true→I q S'')∧(b=false→D S'')) :
  qn E 68 [.yd o,.bx kb 0 0] S fun r S'=>(∃ i,qaz i=none∧I i S')∨D S':=by
 refine qr Tryz.func68 rfl (Nat.le_of_ble_eq_true rfl) ?_;have hb:=hI _ S h0;have hmi:(l.ents.map entA).length=l.ents.length:=by simp
 repeat' (first|apply qm|apply q9|apply qe|apply qf|apply qj|(apply qc;exact rfl;apply cd_f;exact cRa)|(apply jl;(iterate 4 exact rfl))|(apply yz;(iterate 4 exact rfl))|(apply js;(iterate 3 exact rfl))|(apply wt;exact rfl;exact rfl)|(apply qan;(iterate 3 exact rfl))|apply qx|(apply yx;exact rfl;exact rfl;exact hb;exact rfl;exact rfl))
 refine v4 (fun (k:Nat) s=>∃ S' r,I r S'∧(S'.length=m∨∃ cs,S'[m]? = some (.cells 0 100 cs))∧k≤l.ents.length∧qaz r=qaz (l.ents.drop k)∧StA [(0,.yd o),(10,.sl 4 (l.ents.map entA) none),(11,Iv l.ents.length),(12,Iv k)] (S'++[]) [] s) (fun k=>l.ents.length - k) 0
  ⟨_,_,d8 _ _ _ (qfi (by omega)) h0,.inl (by simpa using hm),by omega,by simp,qkl (vk ⟨rfl,rfl,congrArg (fun n:Nat=>Iv (n:Int)) hmi,rfl,trivial⟩)⟩ ?_
 rintro k _ ⟨S',r,hi,u7,hk,dk,t,rfl⟩;have o7:=zgc u7;by_cases i6:k<l.ents.length
 ·have hx:l.ents[k]? = some l.ents[k]:=List.getElem?_eq_getElem i6
  have o8:(l.ents.map entA)[k]? = some (entA l.ents[k]):=by rw [List.getElem?_map,hx];rfl
  rw [List.drop_eq_getElem_cons i6,qaz] at dk;generalize l.ents[k]=e at hx o8 dk;obtain⟨cs,nj⟩:=zgb (cs0:=(entA e).cells) u7;by_cases he:0<e.id
  ·rw [if_pos he] at dk
   repeat' (first|apply qm|apply q9|apply qe|apply qf|apply qj|(apply qy;(iterate 3 exact rfl))|(apply ze;(iterate 4 exact rfl))|(apply qb2;exact cAo)|(apply qc;exact rfl;apply wg;exact cAo)|(apply jy;exact rfl;exact rfl)|(apply zk;(iterate 3 exact rfl))|(apply js;(iterate 3 exact rfl))|(apply j5;(iterate 5 exact rfl))|(apply z8;(iterate 11 exact rfl))|apply qx|(apply kh (n:=k);(iterate 5 exact rfl);exact o8))
   apply qbi (o:=o) rfl;refine xk.mono (hY r e _ _ cs (d8 _ _ _ (qfi (by omega)) hi) nj dk) ?_;rintro b S2 ⟨h1,h2,h3⟩
   show AOps _ _ _ _ _ _ _
   cases b
   ·skip
    repeat' (first|apply qf|(apply jb;exact rfl)|(apply ze;(iterate 4 exact rfl))|(apply qb2;exact cAo)|(apply qp;exact rfl;apply qcm;exact cAo)|(apply qc;exact rfl;apply qkx;exact cRa)|apply qu)
    exact qo rfl (xl rfl) (.inr (h3 rfl))
   ·skip
    repeat' (first|apply qe|apply qf|apply qj|(apply jb;exact rfl)|(apply ze;(iterate 4 exact rfl))|(apply qb2;exact cAo)|(apply qp;exact rfl;apply qcm;exact cAo)|(apply qc;exact rfl;apply qn9;exact cRa)|(apply z7;exact rfl;exact rfl;exact zn (by omega) (by omega))|apply qx)
    exact⟨k+1,⟨_,_,h2 rfl,.inr ⟨cs,h1⟩,by omega,rfl,qkl (vk ⟨rfl,rfl,rfl,rfl,trivial⟩)⟩,by omega⟩
  ·rw [if_neg he] at dk
   repeat' (first|apply qm|apply q9|apply qe|apply qf|apply qj|(apply qy;(iterate 3 exact rfl))|(apply ze;(iterate 4 exact rfl))|(apply qee;exact cAo)|(apply qp;exact rfl;apply qdi;exact cAo)|(apply qc;exact rfl;apply wg;exact cAo)|(apply qc;exact rfl;apply cd_f;exact cRa)|(apply z7;exact rfl;exact rfl;exact zn (by omega) (by omega))|(apply jy;exact rfl;exact rfl)|(apply zk;(iterate 3 exact rfl))|(apply js;(iterate 3 exact rfl))|(apply j5;(iterate 5 exact rfl))|(apply z8;(iterate 11 exact rfl))|apply qx|(apply kh (n:=k);(iterate 5 exact rfl);exact o8))
   exact⟨k+1,⟨_,_,d8 _ _ _ (qfi (by omega)) hi,.inr ⟨cs,nj⟩,by omega,dk,qkl (vk ⟨rfl,rfl,rfl,rfl,trivial⟩)⟩,by omega⟩
 ·rw [List.drop_of_length_le (by omega),qaz] at dk
  repeat' (first|apply qm|apply qe|apply qf|(apply qy;(iterate 3 exact rfl))|(apply qc;exact rfl;apply xh;exact cAo)|apply vc)
  exact qo rfl (xl rfl) (.inl ⟨r,dk,d8 _ _ _ (qfi (by omega)) hi⟩)
def allY (r:List EntV):Option (SV×List EntV):=(qaz r).map fun x=>(.a (entA x.1),x.2)
theorem ze8 (l:qq) (hl:l.ents.length<1000000):ItC 68 27 [kf l] (evY allY) l.ents:=⟨fun o kb n m I D S hm hn h0 hI d8 hY=>by
 refine (zcy l o kb n m I D S hm hn hl h0 hI d8 fun r e q S' cs hi u7 hx=>?_).mono ?_
 ·refine (hY r (entA e) q S' [.cells 0 100 cs] hi (fun j y hy=>?_) (by simp [evY,allY,hx,SV.ev])).mono fun b S'' ⟨h1,h2,h3⟩=>⟨by have:=h1 0 _ rfl;simpa using this,h2,h3⟩
  match j with
  | 0=>
   simp only [List.getElem?_cons_zero,Option.some.injEq] at hy;subst hy
   exact⟨u7,yp rfl⟩
  |j+1=>simp at hy
 ·rintro r S' (⟨i,h1,h2⟩|h)
  ·exact .inl ⟨i,by simp [evY,allY,h1],h2⟩
  ·exact .inr h⟩
theorem q7q (l:qq):j8 E 39 [.a (kf l)] 0 (hpF []) ⟨.fn (.func 68) [] [.bx 0 0],ju [],[(0,some (.cells 27 [.a (kf l)]))]++kz [],1⟩:=by
 refine wh [.a (kf l)] [] 0 (.fn (.func 68) [] [.bx 0 0]) [(0,some (.cells 27 [.a (kf l)]))] 1 Tryz.func39 rfl rfl rfl rfl fun S F ρ=>?_;apply qd [1];repeat' (first|apply And.intro|(intro h;try exact cDd)|exact cSd|apply qb [1]|refine exr ?_|refine qi ?_)
end Go.Proofs.YtihlchbgjdkmpaaGreatDoor
namespace Go.Pl
open Go Go.Proofs
def qfy (id:Int):Nat→List (Int×List Fld)→Int
 | _,[]=> -1
 |k,x::r=>if x.1=id then (k:Int) else qfy id (k+1) r
def qii (l:qq) (id:Int):Int:=qfy id 0 (stzF l.ents)
end Go.Pl
namespace Go.Proofs.YtihlchbgjdkmpaaGreatDoor
open Go Go.Av Go.RowKit Go.Proofs Go.Pl
@[reducible] def stzA (x : Int × List Fld) : AV := .ag [Iv x.1, kj x.2]
@[reducible] def qjk (s : List (Int × List Fld)) : AV := .sl 2 (s.map stzA) none
theorem q5r (s:List (Int×List Fld)):Pure (qjk s):=qar fun x hx=>by
 obtain⟨f,_,rfl⟩:=List.mem_map.1 hx;intro y hy;simp only [AV.cells,List.mem_cons,List.not_mem_nil,or_false] at hy;rcases hy with rfl|rfl
 ·exact qt _
 ·exact y4 _
theorem qqp (es:List EntV):(stzF es).length≤es.length:=by
 unfold stzF;rw [List.length_map];exact List.length_filter_le _ _
theorem qnv {N:Nat} {B:Bs} {C:Conf} {Q:Exit→Conf→Prop} {X:Type} {f:Operand} {p:Tmp} {asg body:Code} (l:qq) (kb n0:Nat) (ks:List Nat) (I:X→Conf) (sl0:List (Nat×SV)) (P:List EntV→X→Prop) (D:Code→X→Prop) (x0:X) (h0:P l.ents x0)
  (he:EntA B.n0 C (I x0)) (hz:¬ B.dz) (hl:l.ents.length<1000000) (gb:∀ x,(I x).sl=sl0)
  (hf:sval N sl0 f=some (.fn (.func 68) [] [.bx kb 0]))
  (rz:∀ x,lkS (I x).hp kb=some (some (.cells 27 [.a (kf l)])))
  (hr:∀ x,y5 n0 ks (I x).sl (I x).hp (I x).nx=true) (h0r:(ksIn n0 ks (I x0).hp && Nat.ble B.n0 n0)=true)
  (hb:∀ r e q x,P r x→qaz r=some (e,q)→RA E N n0 asg (fun F ρ C1=>RB E N F ρ n0 body (rndQ n0 (P q) D I) C1) ⟨(p,.a (entA e))::(I x).sl,(I x).hp,(I x).nx⟩)
  (hn:∀ r x,qaz r=none→P r x→Q .normal (I x)) (hd:∀ c x,D c x→qws Q c (I x)):Sm E none N B (.rangeFunc f #[p] asg body) Q C:=by
 refine qpl (ze8 l hl) Tryz.call68 (fun i v j h=>?_) kb n0 [.a (kf l)] (fun _=>rfl) ks I sl0 P D x0 h0 he hz gb hf rz hr h0r (fun i x v j hp h=>?_) (fun i x h hp=>?_) hd
 ·unfold allY at h
  cases hx:qaz i with
  |none=>rw [hx] at h;simp at h
  |some y=>
   rw [hx] at h;simp only [Option.map_some,Option.some.injEq,Prod.mk.injEq] at h;rw [← h.1]
   try rfl
 ·unfold allY at h
  cases hx:qaz i with
  |none=>rw [hx] at h;simp at h
  |some y=>
   rw [hx] at h;simp only [Option.map_some,Option.some.injEq,Prod.mk.injEq] at h;obtain⟨h1,h2⟩:=h;rw [← h1,← h2];exact hb i y.1 y.2 x hp hx
 ·unfold allY at h
  cases hx:qaz i with
  |none=>exact hn i x hx hp
  |some y=>rw [hx] at h;simp at h
theorem qe2 (l:qq) (st:List AObj) (hl:l.ents.length<1000000) (hI:∀ e∈l.ents,e.x.fields.length<1000000):qn E 14 [kf l] st fun r st'=>r=qjk (stzF l.ents)∧st'=st:=by
 refine zx [.a (kf l)] (q5r _) Tryz.func14 rfl rfl (fun _=>rfl) rfl fun S0=>?_;apply qd [];repeat' (first|apply And.intro|(intro h;try exact cDd)|exact⟨Tryz.call39⟩|(refine zy (q7q l) ?_)|exact cSd|apply qb []|refine exr ?_|refine qi ?_)
 refine qnv (X:=List (Int×List Fld)) l 1 2 [0,1] (fun out=>⟨[(3,.bx 0 0),(6,.fn (.func 68) [] [.bx 1 0])],[(0,some (.cells 39 [.tp 2])),(1,some (.cells 27 [.a (kf l)])),(2,some (.tip 2 93 (out.map stzA)))],3⟩) _
  (fun r out=>out++stzF r=stzF l.ents∧out.length+r.length≤l.ents.length∧∀ y∈r,y∈l.ents) (fun _ _=>False) [] ⟨by simp,by simp,fun _ h=>h⟩ ?_ id hl (fun _=>rfl) rfl (fun _=>rfl) (fun _=>rfl) rfl ?_ ?_ (fun _ _ h=>h.elim)
 ·skip
  repeat' (first|apply And.intro|(intro h;try exact cDd)|exact cSd|apply qb []|refine exr ?_|refine qi ?_)
 ·rintro r e q out ⟨h1,h2,h3⟩ hx
  obtain⟨g1,g2,g3,g4,g5⟩:=qlh hx;rw [g3] at h1;have nc:=fun st=>qew e.x.fields st (hI e (h3 e g2));have o7:(out.map stzA).length=out.length:=by simp
  refine RA.mk fun S F ρ rd=>?_;apply qd [];repeat' (first|apply And.intro|(intro h;try exact cDd)|(refine RB.mk fun S rd=>?_;apply qd [])|exact⟨Tryz.call40⟩|refine cpe nc ?_|(refine Exists.intro (out++[(e.id,e.x.fields)]) ⟨⟨by rw [← h1];simp,by simp;omega,fun y hy=>h3 y (g5 y hy)⟩,?_⟩)|exact cSd|apply qb []|refine exr ?_|refine qi ?_)
  all_goals first|(simp [SV.evs,SV.ev];done)|(simp [SV.evs];omega)
 ·rintro r out hx ⟨h1,h2,h3⟩
  rw [qlg hx,List.append_nil] at h1;rw [← h1];repeat' (first|apply And.intro|(intro h;try exact cDd)|exact cSd|apply qb []|refine exr ?_|refine qi ?_)
theorem za8 (l:qq) (id:Int) (st:List AObj) (hl:l.ents.length<1000000):qn E 58 [kf l,Iv id] st fun r st'=>r=Iv (qii l id)∧st'=st:=by
 refine zx [.a (kf l),.i id] (qt _) Tryz.func58 rfl rfl (fun _=>rfl) rfl fun S0=>?_;apply qd [];repeat' (first|apply And.intro|(intro h;try exact cDd)|exact⟨Tryz.call39⟩|(refine zy (q7q l) ?_)|exact cSd|apply qb []|refine exr ?_|refine qi ?_)
 refine qnv (X:=Int×Nat) l 2 3 [0,1,2] (fun (c,n)=>⟨[(3,.a (.pp [Iv id])),(4,.bx 0 0),(5,.bx 1 0),(8,.fn (.func 68) [] [.bx 2 0])],[(0,some (.cells 3 [.i c])),(1,some (.cells 3 [.i n])),(2,some (.cells 27 [.a (kf l)]))],3⟩) _
  (fun r (c,n)=>c=0∧qfy id n (stzF r)=qii l id∧n+r.length≤l.ents.length) (fun c x=>c = .ret∧x.1=qii l id) (0,0) ⟨rfl,rfl,by simp⟩ ?_ (fun h=>h) hl (fun _=>rfl) rfl (fun _=>rfl) (fun _=>rfl) rfl ?_ ?_ ?_
 ·skip
  repeat' (first|apply And.intro|(intro h;try exact cDd)|exact cSd|apply qb []|refine exr ?_|refine qi ?_)
 ·rintro r e q ⟨c,n⟩ ⟨rfl,h1,h2⟩ hx
  obtain⟨g1,g2,g3,g4,g5⟩:=qlh hx;rw [g3,qfy] at h1;by_cases he:e.id=id
  ·rw [if_pos he] at h1
   refine RA.mk fun S F ρ rd=>?_;apply qd [];repeat' (first|apply And.intro|(intro h;try exact cDd)|(refine RB.mk fun S rd=>?_;apply qd [])|(refine Exists.intro ((n:Int),n) ⟨⟨rfl,h1⟩,?_⟩)|exact cSd|apply qb []|refine exr ?_|refine qi ?_)
  ·rw [if_neg he] at h1
   refine RA.mk fun S F ρ rd=>?_;apply qd [];repeat' (first|apply And.intro|(intro h;try exact cDd)|(refine RB.mk fun S rd=>?_;apply qd [])|(refine Exists.intro ((0:Int),n+1) ⟨⟨rfl,h1,by omega⟩,?_⟩)|exact cSd|apply qb []|refine exr ?_|refine qi ?_)
   all_goals first|(simp [SV.evs,SV.ev];done)|(simp [SV.evs];omega)
 ·rintro r ⟨c,n⟩ hx ⟨rfl,h1,h2⟩
  rw [qlg hx,qfy] at h1;rw [← h1];repeat' (first|apply And.intro|(intro h;try exact cDd)|exact cSd|apply qb []|refine exr ?_|refine qi ?_)
 ·rintro c ⟨c',n⟩ ⟨rfl,h1⟩
  dsimp only at h1;subst h1;repeat' (first|apply And.intro|(intro h;try exact cDd)|exact cSd|apply qb []|refine exr ?_|refine qi ?_)
theorem q28 {es:List EntV} {n:Nat} (h:∀ e∈es,e.x.fields.length<n):∀ x∈stzF es,x.2.length<n:=fun x hx=>by
 obtain⟨e,he,rfl⟩:=List.mem_map.1 hx;exact h e (List.mem_filter.1 he).1
theorem qgj {text:qa} {b:jp} {r:RunV} (hT:vu text b) (hp:jf b.base b.batches=(.no,r)):jn text=(.no,b,r.l):=by
 unfold jn;rw [qti hT];simp [hp]
theorem qe6 {text:qa} (h:(jn text).1 = .no):∃ b r,vu text b∧jf b.base b.batches=(.no,r)∧jn text=(.no,b,r.l):=by
 by_cases hb:(jt text).1 = .no
 ·have hT:=qkw (text:=text) (b:=(jt text).2) (by rw [← hb])
  by_cases hp:(jf (jt text).2.base (jt text).2.batches).1 = .no
  ·have np:jf (jt text).2.base (jt text).2.batches=(.no,(jf (jt text).2.base (jt text).2.batches).2):=by rw [← hp]
   exact⟨_,_,hT,np,qgj hT np⟩
  ·unfold jn at h
   rw [if_pos hb,if_neg hp] at h;exact absurd h hp
 ·unfold jn at h
  rw [if_neg hb] at h;exact absurd h hb
theorem qmh:∀ (bs:List (List ql)) (r r':RunV) (x:List ql),zv bs r=(.no,r')→(doF r'.l x).1 = .no→zv (bs++[x]) r=(.no,y6 r' x)
 | [],r,r',x,h,hd=>by
  simp only [zv,Prod.mk.injEq,true_and] at h;subst h
  show zv [x] r=_
  unfold zv;rw [if_pos hd]
  try rfl
 |b::q,r,r',x,h,hd=>by
  unfold zv at h
  show zv (b::(q++[x])) r=_
  unfold zv;split at h
  ·rename_i hb
   rw [if_pos hb];exact qmh q _ _ _ h hd
  ·simp at h
theorem qls {base:qa} {bs:List (List ql)} {r:RunV} {x:List ql} (h:jf base bs=(.no,r)) (hd:(doF r.l x).1 = .no):jf base (bs++[x])=(.no,y6 r x):=by
 unfold jf at h ⊢;split at h
 ·rename_i hp
  rw [if_pos hp];exact qmh _ _ _ _ h hd
 ·rename_i hp
  simp only [Prod.mk.injEq] at h;exact absurd h.1 hp
end Go.Proofs.YtihlchbgjdkmpaaGreatDoor
namespace Go.Pl
open Go Go.Proofs
theorem qin (a b:List EntV):stzF (a++b)=stzF a++stzF b:=by simp [stzF]
end Go.Pl
namespace Go.Proofs.YtihlchbgjdkmpaaGreatDoor
open Go Go.Av Go.RowKit Go.Proofs Go.Pl
theorem qjd (l:qq) (x:ql):l.next≤(oneF l x).2.2.next:=by
 unfold oneF wu delF insF qf4 delL insL;split
 ·split
  ·exact Int.le_refl _
  ·split
   ·split <;> exact Int.le_refl _
   ·exact Int.le_refl _
 ·split
  ·split <;> exact Int.le_refl _
  ·split
   ·exact Int.le_refl _
   ·split
    ·split
     ·exact Int.le_refl _
     ·simp only
      omega
    ·exact Int.le_refl _
end Go.Proofs.YtihlchbgjdkmpaaGreatDoor
namespace Go.Pl
open Go Go.Proofs Go.Proofs.YtihlchbgjdkmpaaGreatDoor
def idsL (es:List EntV):List Int:=(es.filter fun e=>decide (0<e.id)).map fun e=>e.id
theorem qa9 (a b:List EntV):idsL (a++b)=idsL a++idsL b:=by simp [idsL]
theorem qef (e:EntV) (b:List EntV):idsL (e::b)=if 0<e.id then e.id::idsL b else idsL b:=by
 unfold idsL;by_cases h:0<e.id
 ·rw [if_pos h,List.filter_cons_of_pos (by simpa using h)];rfl
 ·rw [if_neg h,List.filter_cons_of_neg (by simpa using h)]
theorem qlf {es:List EntV} {n:Int}:n∈idsL es↔0<n∧∃ e∈es,e.id=n:=by
 unfold idsL;simp only [List.mem_map,List.mem_filter,decide_eq_true_eq];constructor
 ·rintro⟨e,⟨he,h⟩,rfl⟩
  exact⟨h,e,he,rfl⟩
 ·rintro⟨h,e,he,rfl⟩
  exact⟨e,⟨he,h⟩,rfl⟩
structure GN (l:qq):Prop where
 nd:(idsL l.ents).Nodup
 lt:∀ e∈l.ents,e.id<l.next
 nx:1≤l.next
theorem q72 {l:qq} {x:za} (h:GN l):GN (xf l x):=by
 obtain⟨h1,h2,h3⟩:=h;unfold xf;split
 ·refine⟨?_,fun e he=>?_,by simp only;omega⟩
  ·simp only
   rw [qa9,qef,if_pos (by simp only;omega)];refine List.nodup_append.2 ⟨h1,by simp [idsL],fun a ha b hb=>?_⟩;obtain⟨_,e,he,rfl⟩:=qlf.1 ha;have:=h2 e he;simp [idsL] at hb;omega
  ·rcases List.mem_append.1 he with he|he
   ·have:=h2 e he;simp only;omega
   ·simp only [List.mem_cons,List.not_mem_nil,or_false] at he;subst he;simp only;omega
 ·refine⟨?_,fun e he=>?_,h3⟩
  ·simp only
   rw [qa9,qef,if_neg (by simp)]
   simpa [idsL] using h1
  ·rcases List.mem_append.1 he with he|he
   ·exact h2 e he
   ·simp only [List.mem_cons,List.not_mem_nil,or_false] at he;subst he;simp only;omega
theorem qvk:∀ (its:List za) (l:qq),GN l→GN (its.foldl xf l)
 | [],l,h=>h
 |x::r,l,h=>qvk r (xf l x) (q72 h)
theorem qzc (its:List za):GN (ofF its):=qvk its ⟨[],1,0⟩ ⟨by simp [idsL],by simp,by simp⟩
theorem zax {es:List EntV} {i:Nat} {e:EntV} {x:za} (h:es[i]? = some e):idsL (es.set i ⟨x,e.id⟩)=idsL es:=by
 obtain⟨d9,rfl⟩:=List.getElem?_eq_some_iff.1 h;have e1:=List.take_append_drop i es;rw [List.drop_eq_getElem_cons d9] at e1;rw [List.set_eq_take_append_cons_drop,if_pos d9]
 conv=>rhs;rw [← e1]
 rw [qa9,qa9,qef,qef]
theorem qzx {l:qq} (h:GN l) (id:Int) (fs:List Fld):GN (wu l id fs).2:=by
 unfold wu;split
 ·exact h
 ·split
  ·unfold qf4
   split
   ·rename_i e he
    refine⟨by simp only;rw [zax he];exact h.nd,fun y hy=>?_,h.nx⟩;rcases List.mem_or_eq_of_mem_set hy with hy|rfl
    ·exact h.lt y hy
    ·exact h.lt e (List.mem_of_getElem? he)
   ·exact h
  ·exact h
theorem q2b {l:qq} (h:GN l) (id:Int):GN (delF l id).2:=by
 unfold delF;split
 ·exact h
 ·generalize (atF l id).toNat=i
  refine⟨?_,fun y hy=>?_,h.nx⟩
  ·have:=h.nd
   rw [← List.take_append_drop i l.ents,qa9] at this;unfold delL;simp only;rw [qa9];refine List.Nodup.sublist (List.Sublist.append (List.Sublist.refl _) ?_) this;unfold idsL;refine List.Sublist.map _ (List.Sublist.filter _ ?_);rw [← List.drop_drop];exact List.drop_sublist 1 _
  ·rcases List.mem_append.1 hy with hy|hy
   ·exact h.lt y (List.mem_of_mem_take hy)
   ·exact h.lt y (List.mem_of_mem_drop hy)
theorem q2n {l:qq} (h:GN l) (id:Int) (fs:List Fld):GN (insF l id fs).2.2:=by
 unfold insF;split
 ·exact h
 ·split
  ·split
   ·exact h
   ·generalize (atF l id+1).toNat=k
    have hn:=h.nx;refine⟨?_,fun y hy=>?_,by simp only [insL];omega⟩
    ·have:=h.nd
     rw [← List.take_append_drop k l.ents,qa9] at this;unfold insL;simp only;rw [qa9,qef,if_pos (by simp only;omega)];refine (List.perm_middle.nodup_iff).2 (List.nodup_cons.2 ⟨fun hm=>?_,this⟩);rw [← qa9,List.take_append_drop] at hm;obtain⟨_,e,he,cj⟩:=qlf.1 hm;have cj:e.id=l.next:=cj;have:=h.lt e he;omega
    ·show y.id<l.next+1
     rcases List.mem_append.1 hy with hy|hy
     ·have:=h.lt y (List.mem_of_mem_take hy);omega
     ·rcases List.mem_cons.1 hy with rfl|hy
      ·simp only;omega
      ·have:=h.lt y (List.mem_of_mem_drop hy);omega
  ·exact h
theorem qdg {l:qq} (h:GN l) (x:ql):GN (oneF l x).2.2:=by
 unfold oneF;split
 ·exact qzx h _ _
 ·split
  ·exact q2b h _
  ·exact q2n h _ _
theorem qux:∀ (b:List ql) (k:Nat) (l:qq) (ids:List Int),GN l→GN (kw k b l ids).2.1
 | [],_,l,_,h=>h
 |x::r,k,l,ids,h=>by
  unfold kw;split
  ·exact qux r _ _ _ (qdg h x)
  ·exact h
theorem qm0 {l:qq} (h:GN l) (b:List ql):GN (doF l b).2.1:=by
 unfold doF;split
 ·exact qux b 0 l [] h
 ·exact h
theorem qph:∀ (bs:List (List ql)) (r:RunV),GN r.l→GN (zv bs r).2.l
 | [],r,h=>h
 |b::bs,r,h=>by
  unfold zv;split
  ·exact qph bs _ (qm0 h b)
  ·first|exact qm0 h b|exact h
theorem qzr (base:qa) (bs:List (List ql)):GN (jf base bs).2.l:=by
 unfold jf;split
 ·exact qph bs _ (qzc _)
 ·exact qzc _
theorem q29 (es:List EntV):(stzF es).map Prod.fst=idsL es:=by
 unfold stzF idsL;rw [List.map_map];rfl
theorem qa1 (e:EntV) (b:List EntV):stzF (e::b)=if 0<e.id then (e.id,e.x.fields)::stzF b else stzF b:=by
 unfold stzF;by_cases h:0<e.id
 ·rw [if_pos h,List.filter_cons_of_pos (by simpa using h)];rfl
 ·rw [if_neg h,List.filter_cons_of_neg (by simpa using h)]
theorem qgm:∀ (es:List EntV) (a b:List (Int×List Fld)) (x:Int×List Fld),stzF es=a++x::b→∃ A e B,es=A++e::B∧stzF A=a∧stzF B=b∧0<e.id∧x=(e.id,e.x.fields)
 | [],a,b,x,h=>by
  have:stzF []=[]:=rfl;rw [this] at h
  cases a <;> simp at h
 |e::r,a,b,x,h=>by
  rw [qa1] at h;by_cases he:0<e.id
  ·rw [if_pos he] at h
   cases a with
   |nil=>
    simp only [List.nil_append,List.cons.injEq] at h
    exact⟨[],e,r,rfl,rfl,h.2,he,h.1.symm⟩
   |cons y a=>
    simp only [List.cons_append,List.cons.injEq] at h;obtain⟨A,e',B,rfl,h1,h2,h3,h4⟩:=qgm r a b x h.2;exact⟨e::A,e',B,rfl,by rw [qa1,if_pos he,h1,h.1],h2,h3,h4⟩
  ·rw [if_neg he] at h
   obtain⟨A,e',B,rfl,h1,h2,h3,h4⟩:=qgm r a b x h;exact⟨e::A,e',B,rfl,by rw [qa1,if_neg he,h1],h2,h3,h4⟩
theorem q2l {id:Int} {e:EntV} {B:List EntV} (he:e.id=id):∀ (A:List EntV) (k:Nat),(∀ y∈A,y.id≠id)→xd id k (A++e::B)=((k+A.length:Nat):Int)
 | [],k,_=>by
  rw [List.nil_append,xd,if_pos he]
  rfl
 |y::A,k,h=>by
  rw [List.cons_append,xd,if_neg (h y (by simp)),q2l he A (k+1) fun z hz=>h z (by simp [hz])];simp only [List.length_cons];omega
theorem qpu {l:qq} {A B:List EntV} {e:EntV} (h:GN l) (hs:l.ents=A++e::B) (he:0<e.id):atF l e.id=(A.length:Int):=by
 unfold atF;rw [if_neg (by omega),hs,q2l rfl A 0 fun y hy hh=>?_]
 ·simp
 ·have br:=h.nd
  rw [hs,qa9,qef,if_pos he] at br;have hm:y.id∈idsL A:=qlf.2 ⟨by omega,y,hy,rfl⟩;exact (List.nodup_append.1 br).2.2 _ hm _ (by simp) hh
theorem qzy {l:qq} {a b:List (Int×List Fld)} {id:Int} {f fs:List Fld} (h:GN l) (hs:stzF l.ents=a++(id,f)::b) (hc:zw fs = .no):(wu l id fs).1 = .no∧stzF (wu l id fs).2.ents=a++(id,fs)::b∧(wu l id fs).2.next=l.next:=by
 obtain⟨A,e,B,h1,h2,h3,h4,h5⟩:=qgm _ _ _ _ hs;simp only [Prod.mk.injEq] at h5;obtain⟨rfl,rfl⟩:=h5;unfold wu;rw [qpu h h1 h4,if_neg (by omega),if_pos hc,Int.toNat_natCast];unfold qf4;have hg:l.ents[A.length]? = some e:=by rw [h1];simp
 rw [hg];refine⟨rfl,?_,rfl⟩;simp only;rw [h1,List.set_append_right _ _ (Nat.le_refl _),Nat.sub_self,List.set_cons_zero,qin,qa1,if_pos h4,h2,h3];unfold x2;rw [if_pos hc]
theorem q2c {l:qq} {a b:List (Int×List Fld)} {id:Int} {f:List Fld} (h:GN l) (hs:stzF l.ents=a++(id,f)::b):(delF l id).1 = .no∧stzF (delF l id).2.ents=a++b∧(delF l id).2.next=l.next:=by
 obtain⟨A,e,B,h1,h2,h3,h4,h5⟩:=qgm _ _ _ _ hs;simp only [Prod.mk.injEq] at h5;obtain⟨rfl,rfl⟩:=h5;unfold delF;rw [qpu h h1 h4,if_neg (by omega),Int.toNat_natCast];refine⟨rfl,?_,rfl⟩;unfold delL;simp only;rw [h1,List.take_left,show (A++e::B).drop (A.length+1)=B by simp,qin,h2,h3]
theorem q2o {l:qq} {a b:List (Int×List Fld)} {bh:Int} {fs:List Fld} (h:GN l) (hs:stzF l.ents=a++b) (hb:bh=(a.getLast?.map Prod.fst).getD 0) (hc:zw fs = .no) :
  (400≤l.many∧(insF l bh fs).2.1 = .num 11)∨((insF l bh fs).2.1 = .no∧stzF (insF l bh fs).2.2.ents=a++(l.next,fs)::b∧(insF l bh fs).2.2.next=l.next+1∧(insF l bh fs).1=l.next):=by
 have hn:=h.nx
 have fin:∀ A B:List EntV,l.ents=A++B→stzF A=a→stzF B=b→atF l bh+1=(A.length:Int)→(¬ (atF l bh<0∧bh≠0)) →
   (400≤l.many∧(insF l bh fs).2.1 = .num 11)∨((insF l bh fs).2.1 = .no∧stzF (insF l bh fs).2.2.ents=a++(l.next,fs)::b∧(insF l bh fs).2.2.next=l.next+1∧(insF l bh fs).1=l.next):=fun A B h1 h2 h3 h4 h5=>by
  unfold insF;rw [if_neg h5,if_pos hc];by_cases hm:400≤l.many
  ·rw [if_pos hm]
   exact .inl ⟨hm,rfl⟩
  ·rw [if_neg hm,h4,Int.toNat_natCast]
   refine .inr ⟨rfl,?_,rfl,rfl⟩;unfold insL;simp only;rw [h1,List.take_left,List.drop_left,qin,qa1,if_pos (by simp only;omega),h2,h3];unfold x2;rw [if_pos hc]
 rcases List.eq_nil_or_concat a with rfl | ⟨a',x,rfl⟩
 ·have h0:bh=0:=by simpa using hb
  subst h0;refine fin [] l.ents rfl rfl (by simpa using hs) ?_ (by simp);unfold atF;rw [if_pos (by omega)];rfl
 ·have hx:bh=x.1:=by simpa using hb
  subst hx;rw [List.concat_eq_append,List.append_assoc] at hs;obtain⟨A,e,B,h1,h2,h3,h4,h5⟩:=qgm _ _ _ _ hs;subst h5;have ha:=qpu h h1 h4;refine fin (A++[e]) B (by rw [h1];simp) ?_ h3 (by rw [ha];simp) (by rw [ha];omega);rw [qin,qa1,if_pos h4,h2];simp [stzF]
def qe1 (done:List (Int×List Fld)):Int:=(done.getLast?.map Prod.fst).getD 0
theorem qjw (done:List (Int×List Fld)) (x:Int×List Fld):qe1 (done++[x])=x.1:=by simp [qe1]
theorem q37 {fs:List Fld} (h:GF fs) (b9:fs≠[]):zw fs = .no:=by
 unfold zw;rw [if_neg b9,if_neg (by have:=h.1;omega)];have:=qoy 0 fs [] fun x hx=>(qa7 x).2 (h.2 x hx);rw [List.append_nil] at this;rw [this];rfl
theorem q1b {x:za} (h:yo x) (hk:x.kind=3):zw x.fields = .no:=by
 have hp:=qzl (its:=[x]) (by simpa using h) (by simp [cntI,hk]);have ha:qae [x]=[x]:=by simp [qae,kp]
 have hm:=qj0 (vr (qae [x])) x (by rw [hp,ha];simp);exact q37 hm.1 (hm.2.1 hk)
theorem qjj {l:qq} (h:GL l):∀ r∈(stzF l.ents).map Prod.snd,zw r = .no:=fun r hr=>by
 unfold stzF at hr;simp only [List.map_map,List.mem_map,List.mem_filter,decide_eq_true_eq] at hr;obtain⟨e,⟨he,h0⟩,rfl⟩:=hr;exact q1b (h.ok e he).1 ((h.ok e he).2.1 h0)
theorem qrx:∀ (b:List ql) (k:Nat),(∀ x∈b,gErr x = .no)→qbe k b = .no
 | [],_,_=>rfl
 |x::r,k,h=>by
  rw [qbe,if_pos (by rw [h x (by simp)];rfl),qrx r (k+1) fun y hy=>h y (by simp [hy])]
end Go.Pl
namespace Go.Pl
open Go Go.Proofs Go.Av Go.Proofs.YtihlchbgjdkmpaaGreatDoor
theorem qje {l:qq} {x:ql} (h:GN l) (ho:(oneF l x).2.1 = .no) :
  (x.kind=1∧(oneF l x).1=0∧∃ a b f,stzF l.ents=a++(x.id,f)::b∧stzF (oneF l x).2.2.ents=a++(x.id,x.fields)::b) ∨
  (x.kind=2∧(oneF l x).1=0∧∃ a b f,stzF l.ents=a++(x.id,f)::b∧stzF (oneF l x).2.2.ents=a++b) ∨
  (x.kind≠1∧x.kind≠2∧(oneF l x).1=l.next∧∃ a b,stzF l.ents=a++b∧stzF (oneF l x).2.2.ents=a++(l.next,x.fields)::b):=by
 have found:∀ id:Int,¬ atF l id<0→∃ a b f,stzF l.ents=a++(id,f)::b:=fun id ha=>by
  rcases qhy l id with g | ⟨i,e,g1,g2,g3,g4⟩
  ·omega
  ·obtain⟨d9,he⟩:=List.getElem?_eq_some_iff.1 g2
   refine⟨stzF (l.ents.take i),stzF (l.ents.drop (i+1)),e.x.fields,?_⟩;have e1:=List.take_append_drop i l.ents;rw [List.drop_eq_getElem_cons d9,he] at e1
   conv=>lhs;rw [← e1]
   rw [qin,qa1,if_pos (by omega),g3]
 have hn:=h.nx;unfold oneF at ho ⊢;by_cases h1:x.kind=1
 ·rw [if_pos h1] at ho ⊢
  have ha:¬ atF l x.id<0:=fun ha=>by unfold wu at ho;rw [if_pos ha] at ho;simp at ho
  have hc:zw x.fields = .no:=Classical.byContradiction fun hc=>by
   unfold wu at ho;rw [if_neg ha,if_neg hc] at ho;exact hc ho
  obtain⟨a,b,f,hs⟩:=found x.id ha;exact .inl ⟨h1,rfl,a,b,f,hs,(qzy h hs hc).2.1⟩
 ·rw [if_neg h1] at ho ⊢
  by_cases h2:x.kind=2
  ·rw [if_pos h2] at ho ⊢
   have ha:¬ atF l x.id<0:=fun ha=>by unfold delF at ho;rw [if_pos ha] at ho;simp at ho
   obtain⟨a,b,f,hs⟩:=found x.id ha;exact .inr (.inl ⟨h2,rfl,a,b,f,hs,(q2c h hs).2.1⟩)
  ·rw [if_neg h2] at ho ⊢
   have ha:¬ (atF l x.id<0∧x.id≠0):=fun ha=>by unfold insF at ho;rw [if_pos ha] at ho;simp at ho
   have hc:zw x.fields = .no:=Classical.byContradiction fun hc=>by
    unfold insF at ho;rw [if_neg ha,if_neg hc] at ho;exact hc ho
   have hab:∃ a b,stzF l.ents=a++b∧x.id=qe1 a:=by
    by_cases h0:x.id=0
    ·exact⟨[],stzF l.ents,rfl,h0⟩
    ·obtain⟨a,b,f,hs⟩:=found x.id fun hh=>ha ⟨hh,h0⟩
     exact⟨a++[(x.id,f)],b,by rw [hs];simp,by rw [qjw]⟩
   obtain⟨a,b,hs,hb⟩:=hab;rcases q2o (fs:=x.fields) h hs hb hc with⟨_,g⟩ | ⟨g1,g2,g3,g4⟩
   ·rw [g] at ho;simp at ho
   ·exact .inr (.inr ⟨h1,h2,g4,a,b,hs,g2⟩)
def qb4 (l:qq) (id:Int):List Fld:=((stzF l.ents).find? fun s=>decide (s.1=id)).map Prod.snd |>.getD []
def w8 (id:Int):Int→List (Int×List Fld)→Int
 | _,[]=>0
 |p,s::r=>if s.1=id then p else w8 id s.1 r
def qb9 (l:qq) (id:Int):Int:=w8 id 0 (stzF l.ents)
structure qit where
 kind:Int
 id:Int
 was:List Fld
 ahead:Int
def yn (l:qq) (x:ql):qit:=⟨x.kind,if 0<(oneF l x).1 then (oneF l x).1 else x.id,qb4 l x.id,qb9 l x.id⟩
def wq:List ql→qq→List qit
 | [],_=>[]
 |x::r,l=>yn l x::wq r (oneF l x).2.2
def wb (L:List (Int×Int)) (id:Int):Int:=if (L.any fun q=>decide (q.1=id))=true then getM id L else id
def xg:List qit→List (Int×Int)→Int→List ql
 | [],_,_=>[]
 |s::r,L,nx=>if s.kind=1 then⟨1,wb L s.id,s.was⟩::xg r L nx else if s.kind=2 then⟨3,wb L s.ahead,s.was⟩::xg r (setM s.id nx L) (nx+1) else⟨2,wb L s.id,[]⟩::xg r L nx
theorem qw8 (s t n:Int):∀ (L:List (Int×Int)),((setM s n L).any fun q=>decide (q.1=t))=(decide (s=t) ||L.any fun q=>decide (q.1=t))
 | []=>by simp [setM]
 |q::r=>by
  unfold setM;by_cases h:q.1=s
  ·rw [if_pos h]
   simp only [List.any_cons,h]
   cases decide (s=t) <;> simp
  ·rw [if_neg h]
   simp only [List.any_cons,qw8 s t n r]
   cases decide (q.1=t) <;> cases decide (s=t) <;> simp
theorem qjc (L:List (Int×Int)) (s t n:Int):wb (setM s n L) t=if t=s then n else wb L t:=by
 unfold wb;rw [qw8,qyj];by_cases h:t=s
 ·subst h
  simp
 ·rw [if_neg h]
  have:decide (s=t)=false:=decide_eq_false fun e=>h e.symm;rw [this,Bool.false_or,if_neg h]
def renS (L:List (Int×Int)) (S:List (Int×List Fld)):List (Int×List Fld):=S.map fun s=>(wb L s.1,s.2)
theorem zbu (L:List (Int×Int)) (S:List (Int×List Fld)):(renS L S).map Prod.snd=S.map Prod.snd:=by
 unfold renS;rw [List.map_map];rfl
theorem qd5 (L:List (Int×Int)) (a b:List (Int×List Fld)):renS L (a++b)=renS L a++renS L b:=by simp [renS]
theorem zbv {L:List (Int×Int)} (h0:wb L 0=0) (a:List (Int×List Fld)):wb L (qe1 a)=qe1 (renS L a):=by
 rcases List.eq_nil_or_concat a with rfl | ⟨a',x,rfl⟩
 ·exact h0
 ·rw [List.concat_eq_append,qjw,qd5]
  exact (qjw (renS L a') (wb L x.1,x.2)).symm
theorem qfx {l:qq} {a b:List (Int×List Fld)} {id:Int} {f:List Fld} (hs:stzF l.ents=a++(id,f)::b) (hd:∀ s∈a,s.1≠id):qb4 l id=f:=by
 unfold qb4;rw [hs,List.find?_append,List.find?_eq_none.2 (by simpa using hd)];simp
theorem qop {id:Int} {f:List Fld} {b:List (Int×List Fld)}:∀ (a:List (Int×List Fld)) (p:Int),(∀ s∈a,s.1≠id)→w8 id p (a++(id,f)::b)=(a.getLast?.map Prod.fst).getD p
 | [],p,_=>by simp [w8]
 |s::a,p,h=>by
  rw [List.cons_append,w8,if_neg (h s (by simp)),qop a s.1 fun y hy=>h y (by simp [hy])]
  cases a with
  |nil=>rfl
  |cons y r=>
   rw [List.getLast?_cons_cons]
   cases hq:(y::r).getLast? with
   |none=>simp at hq
   |some z=>rfl
theorem qgf {l:qq} {a b:List (Int×List Fld)} {id:Int} {f:List Fld} (h:GN l) (hs:stzF l.ents=a++(id,f)::b):0<id∧(∀ s∈a,s.1≠id)∧∀ s∈b,s.1≠id:=by
 have br:=h.nd;rw [← q29,hs,List.map_append,List.map_cons] at br;obtain⟨_,h2,h3⟩:=List.nodup_append.1 br;obtain⟨h4,_⟩:=List.nodup_cons.1 h2;have hm:id∈idsL l.ents:=by rw [← q29,hs];simp
 refine⟨(qlf.1 hm).1,fun s hs hh=>h3 s.1 (List.mem_map.2 ⟨s,hs,rfl⟩) id (by simp) hh,fun s hs hh=>h4 ?_⟩;exact List.mem_map.2 ⟨s,hs,hh⟩
def kg (b:List ql) (l:qq):qq:=b.foldl (fun l x=>(oneF l x).2.2) l
def qco:List ql→qq→Prop
 | [],_=>True
 |x::r,l=>(oneF l x).2.1 = .no∧qco r (oneF l x).2.2
theorem qqt:∀ (b:List ql) (k:Nat) (l:qq) (ids:List Int),(kw k b l ids).1 = .no→qco b l∧(kw k b l ids).2.1=kg b l
 | [],_,_,_,_=>⟨trivial,rfl⟩
 |x::r,k,l,ids,h=>by
  rw [kw] at h ⊢;by_cases ho:(oneF l x).2.1 = .no
  ·rw [if_pos ho] at h ⊢
   obtain⟨h1,h2⟩:=qqt r _ _ _ h;exact⟨⟨ho,h1⟩,h2⟩
  ·rw [if_neg ho] at h
   simp at h
theorem qs5:∀ (b:List ql) (x:ql) (l:qq),qco (b++[x]) l→qco b l∧(oneF (kg b l) x).2.1 = .no
 | [],x,l,h=>⟨trivial,h.1⟩
 |y::b,x,l,h=>by
  obtain⟨h1,h2⟩:=qs5 b x (oneF l y).2.2 h.2;exact⟨⟨h.1,h1⟩,h2⟩
theorem qs2:∀ (b:List ql) (x:ql) (l:qq),wq (b++[x]) l=wq b l++[yn (kg b l) x]
 | [],x,l=>rfl
 |y::b,x,l=>by
  rw [List.cons_append,wq,qs2 b x];rfl
theorem qq3 (b:List ql) (x:ql) (l:qq):kg (b++[x]) l=(oneF (kg b l) x).2.2:=by simp [kg]
theorem qpp:∀ (b:List ql) (l:qq),GN l→GN (kg b l)
 | [],_,h=>h
 |x::r,l,h=>qpp r _ (qdg h x)
theorem qw0:∀ (b:List ql) (l:qq),GL l→GL (kg b l)
 | [],_,h=>h
 |x::r,l,h=>qw0 r _ (qtt h x)
theorem q18 {l:qq} (h:GL l):cntI (ja l)=(stzF l.ents).length:=by
 have key:∀ es:List EntV,(∀ e∈es,0<e.id↔e.x.kind=3)→cntI (es.map fun e=>e.x)=(stzF es).length:=by
  intro es
  induction es with
  |nil=>intro _;rfl
  |cons e r ih=>
   intro he;have h1:=he e (by simp);rw [List.map_cons,wp,ih fun x hx=>he x (by simp [hx]),qa1];by_cases hk:e.x.kind=3
   ·rw [if_pos hk,if_pos (h1.2 hk),List.length_cons];omega
   ·rw [if_neg hk,if_neg (fun q=>hk (h1.1 q))];omega
 exact key l.ents fun e he=>(h.ok e he).2
theorem zc9 (l:qq) (hg:GN l) (hl:GL l):∀ (n:Nat) (b:List ql),b.length=n→qco b l→∀ (M:qq) (L:List (Int×Int)) (k:Nat) (ids:List Int),GN M→GL M→stzF M.ents=renS L (stzF (kg b l).ents)→wb L 0=0 →
  (kw k (xg (wq b l).reverse L M.next) M ids).1 = .no∧(stzF (kw k (xg (wq b l).reverse L M.next) M ids).2.1.ents).map Prod.snd=(stzF l.ents).map Prod.snd:=by
 intro n
 induction n with
 |zero=>
  intro b hb ht M L k ids hM hG hs h0;have:b=[]:=List.length_eq_zero_iff.1 hb;subst this;refine⟨rfl,?_⟩
  show (stzF M.ents).map Prod.snd=_
  rw [hs,zbu]
  rfl
 |succ n ih=>
  intro b hb ht M L k ids hM hG hs h0
  obtain⟨b',x,rfl⟩:∃ b' x,b=b'++[x]:=by
   rcases List.eq_nil_or_concat b with rfl | ⟨b',x,rfl⟩
   ·simp at hb
   ·exact⟨b',x,List.concat_eq_append⟩
  obtain⟨pq,ht2⟩:=qs5 b' x l ht;have hP:=qpp b' l hg;have hQ:=qw0 b' l hl;have cx:b'.length=n:=by simpa using hb
  rw [qq3] at hs;rw [qs2,List.reverse_append,List.reverse_singleton,List.singleton_append];generalize hPe:kg b' l=P at *;rcases qje hP ht2 with⟨hk,hi,a,c,f,e1,e2⟩ | ⟨hk,hi,a,c,f,e1,e2⟩ | ⟨gw,bq,hi,a,c,e1,e2⟩
  ·obtain⟨bz,ha,hc⟩:=qgf hP e1
   have d8:yn P x=⟨1,x.id,f,qb9 P x.id⟩:=by
    unfold yn;rw [hi,if_neg (by omega),qfx e1 ha,hk]
   rw [d8,xg,if_pos rfl,kw];rw [e2,qd5] at hs;have hf:zw f = .no:=qjj hQ f (by rw [e1];simp);obtain⟨g1,g2,g3⟩:=qzy (fs:=f) hM hs hf;have ho:oneF M ⟨1,wb L x.id,f⟩=(0,wu M (wb L x.id) f):=by simp [oneF]
   rw [ho];simp only;rw [if_pos g1,← g3];refine ih b' cx pq _ L _ _ (qzx hM _ _) (qzw hG _ _) ?_ h0;rw [g2,hPe,e1,qd5];rfl
  ·obtain⟨bz,ha,hc⟩:=qgf hP e1
   have hah:qb9 P x.id=qe1 a:=by
    unfold qb9;rw [e1,qop a 0 ha];rfl
   have d8:yn P x=⟨2,x.id,f,qe1 a⟩:=by
    unfold yn;rw [hi,if_neg (by omega),qfx e1 ha,hk,hah]
   rw [d8,xg,if_neg (by simp),if_pos rfl,kw];rw [e2,qd5] at hs;have hf:zw f = .no:=qjj hQ f (by rw [e1];simp);have ho:oneF M ⟨3,wb L (qe1 a),f⟩=insF M (wb L (qe1 a)) f:=by simp [oneF]
   simp only;rw [ho];rcases q2o (fs:=f) hM hs (zbv h0 a) hf with⟨g,_⟩ | ⟨g1,g2,g3,g4⟩
   ·have q1:=hQ.le
    have q2:=hG.mn;rw [q18 hQ,e1] at q1;rw [q18 hG,hs] at q2;simp [renS] at q1 q2;omega
   ·rw [g1,if_pos rfl,← g3]
    have hren:∀ S:List (Int×List Fld),(∀ s∈S,s.1≠x.id)→renS (setM x.id M.next L) S=renS L S:=fun S hS=>by
     unfold renS;refine List.map_congr_left fun s hs=>?_;rw [qjc,if_neg (hS s hs)]
    refine ih b' cx pq _ (setM x.id M.next L) _ _ (q2n hM _ _) (q2m hG _ _) ?_ (by rw [qjc,if_neg (by omega)];exact h0);rw [g2,hPe,e1,qd5,hren a ha]
    show _=_++(wb (setM x.id M.next L) x.id,f)::renS (setM x.id M.next L) c
    rw [hren c hc,qjc,if_pos rfl]
  ·have hgP:=qdg hP x
   obtain⟨bz,ha,hc⟩:=qgf hgP e2
   have d8:yn P x=⟨x.kind,P.next,qb4 P x.id,qb9 P x.id⟩:=by
    unfold yn;rw [hi,if_pos bz]
   rw [d8,xg,if_neg gw,if_neg bq,kw];rw [e2,qd5] at hs;obtain⟨g1,g2,g3⟩:=q2c hM hs;have ho:oneF M ⟨2,wb L P.next,[]⟩=(0,delF M (wb L P.next)):=by simp [oneF]
   simp only;rw [ho];simp only;rw [if_pos g1,← g3];refine ih b' cx pq _ L _ _ (q2b hM _) (q2a hG _) ?_ h0;rw [g2,hPe,e1,qd5];rfl
theorem qun:∀ (ss:List qit) (L:List (Int×Int)) (nx:Int),(∀ s∈ss,s.kind=1∨s.kind=2→zw s.was = .no)→∀ x∈xg ss L nx,gErr x = .no
 | [],_,_,_,x,hx=>by simp [xg] at hx
 |s::r,L,nx,h,x,hx=>by
  have hr:=fun L nx=>qun r L nx fun y hy=>h y (by simp [hy]);have hs:=h s (by simp);rw [xg] at hx;split at hx
  ·rename_i h1
   rcases List.mem_cons.1 hx with rfl|hx
   ·simpa [gErr] using hs (.inl h1)
   ·exact hr _ _ x hx
  ·split at hx
   ·rename_i h2
    rcases List.mem_cons.1 hx with rfl|hx
    ·simpa [gErr] using hs (.inr h2)
    ·exact hr _ _ x hx
   ·rcases List.mem_cons.1 hx with rfl|hx
    ·simp [gErr]
    ·exact hr _ _ x hx
theorem qku:∀ (ss:List qit) (L:List (Int×Int)) (nx:Int),(xg ss L nx).length=ss.length
 | [],_,_=>rfl
 |s::r,L,nx=>by
  rw [xg];split
  ·simp [qku r]
  ·split <;> simp [qku r]
theorem qgn:∀ (b:List ql) (l:qq),(wq b l).length=b.length
 | [],_=>rfl
 |x::r,l=>by simp [wq,qgn r]
theorem qnz:∀ (b:List ql) (l:qq),GN l→GL l→qco b l→∀ s∈wq b l,s.kind=1∨s.kind=2→zw s.was = .no
 | [],_,_,_,_,s,hs,_=>by simp [wq] at hs
 |x::r,l,hn,hl,ht,s,hs,hk=>by
  rw [wq] at hs;rcases List.mem_cons.1 hs with rfl|hs
  ·have hk:x.kind=1∨x.kind=2:=hk
   show zw (qb4 l x.id) = .no
   rcases qje hn ht.1 with⟨_,_,a,c,f,e1,_⟩ | ⟨_,_,a,c,f,e1,_⟩ | ⟨h1,h2,_⟩
   ·rw [qfx e1 (qgf hn e1).2.1]
    exact qjj hl f (by rw [e1];simp)
   ·rw [qfx e1 (qgf hn e1).2.1]
    exact qjj hl f (by rw [e1];simp)
   ·omega
  ·exact qnz r _ (qdg hn x) (qtt hl x) ht.2 s hs hk
def vv (l:qq) (b:List ql):List ql:=xg (wq b l).reverse [] (doF l b).2.1.next
theorem q3d {l:qq} {b:List ql} (hn:GN l) (hl:GL l) (h:(doF l b).1 = .no) :
  eErr (vv l b) = .no∧(doF (doF l b).2.1 (vv l b)).1 = .no∧(stzF (doF (doF l b).2.1 (vv l b)).2.1.ents).map Prod.snd=(stzF l.ents).map Prod.snd:=by
 have he:eErr b = .no:=Classical.byContradiction fun he=>by
  unfold doF at h;rw [if_neg he] at h;exact he h
 have hd:doF l b=kw 0 b l []:=by unfold doF;rw [if_pos he]
 rw [hd] at h;obtain⟨ht,ha⟩:=qqt b 0 l [] h
 have d5:¬ (b.length<1∨40<b.length):=fun hh=>by
  unfold eErr at he;rw [if_pos hh] at he;simp at he
 have hb:eErr (vv l b) = .no:=by
  unfold eErr
  have lq:(vv l b).length=b.length:=by
   unfold vv;rw [qku,List.length_reverse,qgn]
  rw [lq,if_neg d5];refine qrx _ 0 (qun _ _ _ fun s hs=>qnz b l hn hl ht s (by simpa using hs))
 have:=zc9 l hn hl b.length b rfl ht (doF l b).2.1 [] 0 [] (qm0 hn b) (qx0 hl b) (by rw [hd,ha];simp [renS,wb]) (by simp [wb])
 have e:doF (doF l b).2.1 (vv l b)=kw 0 (vv l b) (doF l b).2.1 []:=by
  show (if eErr (vv l b) = .no then kw 0 (vv l b) (doF l b).2.1 [] else _)=_
  rw [if_pos hb]
 rw [e];exact⟨hb,this⟩
end Go.Pl
namespace Go.Pl
open Go Go.Proofs Go.Proofs.YtihlchbgjdkmpaaGreatDoor
def qbk (b:jp) (n:Nat):qa:=vp b.gen++(b.base++kl (b.batches.take n))
def qdn (b:jp):List Int:=((vp b.gen).length+b.base.length:Nat)::b.ends
theorem q8o (x y:List (List ql)):kl (x++y)=kl x++kl y:=by simp [kl]
theorem q32 {text:qa} {b:jp} (h:vu text b) (n:Nat):text=qbk b n++(kl (b.batches.drop n)++b.tail):=by
 have e:=congrArg kl (List.take_append_drop n b.batches);rw [q8o] at e;unfold qbk;rw [h.txt]
 conv=>lhs;rw [← e]
 simp
theorem q0x {text:qa} {b:jp} (h:vu text b) (n:Nat):text.take (qbk b n).length=qbk b n:=by
 have:=q32 h n
 conv=>lhs;rw [this]
 exact List.take_left
theorem qx6:∀ (bs:List (List ql)) (a:Int) (n:Nat),n≤bs.length→(a::x8 a bs)[n]? = some (a+(kl (bs.take n)).length)
 |bs,a,0,_=>by simp [kl]
 | [],a,n+1,h=>by simp at h
 |x::r,a,n+1,h=>by
  rw [List.getElem?_cons_succ,x8,qx6 r _ n (by simpa using h),List.take_succ_cons,ym];simp;omega
theorem qmd {text:qa} {b:jp} (h:vu text b) {n:Nat} (hn:n≤b.batches.length):(qdn b)[n]? = some ((qbk b n).length:Int):=by
 unfold qdn;rw [h.ends];have:=qx6 b.batches (((vp b.gen).length+b.base.length:Nat):Int) n hn;rw [show (((vp b.gen).length+b.base.length:Nat):Int)=((vp b.gen).length:Int)+(b.base.length:Int) by omega] at this ⊢;rw [this];unfold qbk;simp;omega
theorem qdy (x:List ql) (q:List (List ql)) (r:RunV):zv (x::q) r=if (doF r.l x).1 = .no then zv q (y6 r x) else (.at' r.given.length 10,r):=by rw [zv]
theorem qno:∀ (a b:List (List ql)) (r r':RunV),zv (a++b) r=(.no,r')→∃ r1,zv a r=(.no,r1)∧zv b r1=(.no,r')
 | [],b,r,r',h=>⟨r,rfl,h⟩
 |x::a,b,r,r',h=>by
  rw [List.cons_append,qdy] at h;rw [qdy];split at h
  ·rename_i hx
   obtain⟨r1,h1,h2⟩:=qno a b _ r' h;exact⟨r1,by rw [if_pos hx];exact h1,h2⟩
  ·simp at h
theorem q8f {base:qa} {a b:List (List ql)} {r:RunV} (h:jf base (a++b)=(.no,r)):∃ r1,jf base a=(.no,r1)∧zv b r1=(.no,r):=by
 unfold jf at h ⊢;split at h
 ·rename_i hp
  rw [if_pos hp];exact qno a b _ _ h
 ·rename_i hp
  simp only [Prod.mk.injEq] at h;exact absurd h.1 hp
theorem qj1 {base:qa} {a:List (List ql)} {r:RunV} (h:jf base a=(.no,r)):yc base = .no:=by
 unfold jf at h;split at h
 ·assumption
 ·rename_i hp
  simp only [Prod.mk.injEq] at h;exact absurd h.1 hp
theorem qzs {x:List ql} {r r':RunV} (h:zv [x] r=(.no,r')):(doF r.l x).1 = .no∧r'=y6 r x:=by
 rw [qdy] at h;split at h
 ·rename_i hx
  simp only [zv,Prod.mk.injEq,true_and] at h;exact⟨hx,h.symm⟩
 ·simp at h
def runI (a:Int) (n:Nat):List Int:=(List.range n).map fun i:Nat=>a+(i:Int)
theorem q8t (a:Int) (n:Nat):runI a (n+1)=runI a n++[a+(n:Int)]:=by simp [runI,List.range_succ]
theorem qjd {l:qq} {x:ql} (hn:GN l) (h:(oneF l x).2.1 = .no):((oneF l x).1=0∧(oneF l x).2.2.next=l.next)∨((oneF l x).1=l.next∧(oneF l x).2.2.next=l.next+1):=by
 unfold oneF at h ⊢;split
 ·left
  unfold wu qf4;split
  ·exact⟨rfl,rfl⟩
  ·split
   ·split <;> exact⟨rfl,rfl⟩
   ·exact⟨rfl,rfl⟩
 ·rename_i h1
  rw [if_neg h1] at h;split
  ·left
   unfold delF delL;split <;> exact⟨rfl,rfl⟩
  ·rename_i h2
   rw [if_neg h2] at h;unfold insF at h ⊢;split
   ·rename_i h3
    rw [if_pos h3] at h;simp at h
   ·rename_i h3
    rw [if_neg h3] at h;split
    ·rename_i h4
     rw [if_pos h4] at h;split
     ·rename_i h5
      rw [if_pos h5] at h;simp at h
     ·exact .inr ⟨rfl,rfl⟩
    ·rename_i h4
     rw [if_neg h4] at h;exact absurd h h4
theorem qky:∀ (b:List ql) (k:Nat) (l:qq) (a:Int) (n:Nat),GN l→a+(n:Int)=l.next→(kw k b l (runI a n)).1 = .no→∃ m,(kw k b l (runI a n)).2.2=runI a m
 | [],k,l,a,n,hg,hn,h=>⟨n,rfl⟩
 |x::r,k,l,a,n,hg,hn,h=>by
  unfold kw at h ⊢;by_cases ho:(oneF l x).2.1 = .no
  ·rw [if_pos ho] at h ⊢
   have hx:=hg.nx;rcases qjd hg ho with⟨e1,e2⟩ | ⟨e1,e2⟩
   ·rw [if_neg (by omega)] at h ⊢
    exact qky r _ _ a n (qdg hg x) (by omega) h
   ·rw [if_pos (by omega),e1,← hn,← q8t] at h ⊢
    exact qky r _ _ a (n+1) (qdg hg x) (by omega) h
  ·rw [if_neg ho] at h
   simp at h
theorem zdp {l:qq} {b:List ql} (hg:GN l) (h:(doF l b).1 = .no):∃ m,(doF l b).2.2=runI l.next m:=by
 unfold doF at h ⊢;by_cases he:eErr b = .no
 ·rw [if_pos he] at h ⊢
  exact qky b 0 l l.next 0 hg (by simp) h
 ·rw [if_neg he] at h
  exact absurd h he
theorem qjh:∀ (bs:List (List ql)) (r r':RunV),GN r.l→zv bs r=(.no,r')→∃ gs,r'.given=r.given++gs∧gs.length=bs.length∧∀ g∈gs,∃ a m,g=runI a m
 | [],r,r',hg,h=>by
  simp only [zv,Prod.mk.injEq,true_and] at h;subst h
  exact⟨[],by simp,rfl,by simp⟩
 |x::q,r,r',hg,h=>by
  rw [qdy] at h;split at h
  ·rename_i hx
   obtain⟨gs,h1,h2,h3⟩:=qjh q _ r' (qm0 hg x) h;obtain⟨m,hm⟩:=zdp hg hx;refine⟨(doF r.l x).2.2::gs,?_,by simp [h2],fun g hh=>?_⟩
   ·rw [h1]
    simp [y6]
   ·rcases List.mem_cons.1 hh with rfl|hh
    ·exact⟨_,_,hm⟩
    ·exact h3 g hh
  ·simp at h
theorem qzp {base:qa} {bs:List (List ql)} {r:RunV} (h:jf base bs=(.no,r)):r.given.length=bs.length∧∀ g∈r.given,∃ a m,g=runI a m:=by
 have hp:=qj1 h;unfold jf at h;rw [if_pos hp] at h;obtain⟨gs,h1,h2,h3⟩:=qjh bs _ r (qzc _) h;simp only [List.nil_append] at h1;rw [h1];exact⟨h2,h3⟩
theorem qkt (C:Int):∀ (ss:List qit) (L:List (Int×Int)) (nx:Int),(∀ s∈ss,0≤s.id∧s.id≤C∧0≤s.ahead∧s.ahead≤C)→(∀ t,0≤t→t≤C→0≤wb L t∧wb L t≤C)→0≤nx→nx+(ss.length:Int)≤C→∀ x∈xg ss L nx,0≤x.id∧x.id≤C
 | [],L,nx,_,_,_,_,x,hx=>by simp [xg] at hx
 |s::r,L,nx,hs,hL,h0,hC,x,hx=>by
  obtain⟨a1,a2,a3,a4⟩:=hs s (by simp);have hr:=fun y hy=>hs y (List.mem_cons_of_mem _ hy);simp only [List.length_cons] at hC;rw [xg] at hx;split at hx
  ·rcases List.mem_cons.1 hx with rfl|hx
   ·exact hL _ a1 a2
   ·exact qkt C r L nx hr hL h0 (by omega) x hx
  ·split at hx
   ·rcases List.mem_cons.1 hx with rfl|hx
    ·exact hL _ a3 a4
    ·refine qkt C r _ (nx+1) hr (fun t h1 h2=>?_) (by omega) (by omega) x hx
     rw [qjc];split
     ·omega
     ·exact hL t h1 h2
   ·rcases List.mem_cons.1 hx with rfl|hx
    ·exact hL _ a1 a2
    ·exact qkt C r L nx hr hL h0 (by omega) x hx
theorem qum:∀ (ss:List qit) (L:List (Int×Int)) (nx:Int),∀ x∈xg ss L nx,x.fields=[]∨∃ s∈ss,(s.kind=1∨s.kind=2)∧x.fields=s.was
 | [],L,nx,x,hx=>by simp [xg] at hx
 |s::r,L,nx,x,hx=>by
  have hr:∀ L nx,x∈xg r L nx→x.fields=[]∨∃ y∈s::r,(y.kind=1∨y.kind=2)∧x.fields=y.was:=fun L nx hx=>by
   rcases qum r L nx x hx with h | ⟨y,hy,h⟩
   ·exact .inl h
   ·exact .inr ⟨y,List.mem_cons_of_mem _ hy,h⟩
  rw [xg] at hx;split at hx
  ·rcases List.mem_cons.1 hx with rfl|hx
   ·exact .inr ⟨s,by simp,.inl (by assumption),rfl⟩
   ·exact hr _ _ hx
  ·split at hx
   ·rcases List.mem_cons.1 hx with rfl|hx
    ·exact .inr ⟨s,by simp,.inr (by assumption),rfl⟩
    ·exact hr _ _ hx
   ·rcases List.mem_cons.1 hx with rfl|hx
    ·exact .inl rfl
    ·exact hr _ _ hx
theorem qw4 (C id:Int):∀ (S:List (Int×List Fld)) (p:Int),0≤p→p≤C→(∀ s∈S,0≤s.1∧s.1≤C)→0≤w8 id p S∧w8 id p S≤C
 | [],p,h0,h1,_=>by rw [w8];omega
 |s::r,p,h0,h1,h=>by
  rw [w8];split
  ·exact⟨h0,h1⟩
  ·obtain⟨a,b⟩:=h s (by simp)
   exact qw4 C id r s.1 a b fun y hy=>h y (List.mem_cons_of_mem _ hy)
theorem q86 {l:qq} (h:GN l):∀ s∈stzF l.ents,0≤s.1∧s.1≤l.next:=fun s hs=>by
 obtain⟨e,he,rfl⟩:=List.mem_map.1 hs;obtain⟨h1,h2⟩:=List.mem_filter.1 he;have:=of_decide_eq_true h2;have:=h.lt e h1;simp only;omega
theorem qq2:∀ (b:List ql) (l:qq),GN l→qco b l→l.next≤(kg b l).next∧(kg b l).next≤l.next+(b.length:Int)
 | [],l,_,_=>by simp [kg]
 |x::r,l,hg,ht=>by
  have h1:=qq2 r _ (qdg hg x) ht.2;have e:kg (x::r) l=kg r (oneF l x).2.2:=rfl;rw [e,List.length_cons];rcases qjd hg ht.1 with⟨_,h2⟩ | ⟨_,h2⟩ <;> (rw [h2] at h1;omega)
theorem qvy (C:Int):∀ (b:List ql) (l:qq),GN l→qco b l→(kg b l).next≤C→∀ s∈wq b l,0≤s.id∧s.id≤C∧0≤s.ahead∧s.ahead≤C
 | [],l,_,_,_,s,hs=>by simp [wq] at hs
 |x::r,l,hg,ht,hC,s,hs=>by
  have e:kg (x::r) l=kg r (oneF l x).2.2:=rfl;rw [e] at hC;have hn:=qq2 r _ (qdg hg x) ht.2;have hx:=hg.nx;have d6:l.next≤C:=by rcases qjd hg ht.1 with⟨_,h2⟩ | ⟨_,h2⟩ <;> (rw [h2] at hn;omega)
  rw [wq] at hs;rcases List.mem_cons.1 hs with rfl|hs
  ·have ha:=qw4 C x.id (stzF l.ents) 0 (by omega) (by omega) fun s hs=>by have:=q86 hg s hs;omega
   have bz:0≤(yn l x).id∧(yn l x).id≤C:=by
    unfold yn
    have key:∀ a b f,stzF l.ents=a++(x.id,f)::b→0≤x.id∧x.id≤C:=fun a b f h=>by
     have:=q86 hg (x.id,f) (by rw [h];simp);simp only at this;omega
    rcases qje hg ht.1 with⟨_,hi,a,c,f,e1,_⟩ | ⟨_,hi,a,c,f,e1,_⟩ | ⟨_,_,hi,_⟩
    ·simp only
     rw [hi,if_neg (by omega)];exact key a c f e1
    ·simp only
     rw [hi,if_neg (by omega)];exact key a c f e1
    ·simp only
     rw [hi,if_pos (by omega)];omega
   exact⟨bz.1,bz.2,ha.1,ha.2⟩
  ·exact qvy C r _ (qdg hg x) ht.2 hC s hs
theorem qqu {l:qq} {b:List ql} (h:(doF l b).1 = .no):eErr b = .no∧qco b l∧(doF l b).2.1=kg b l:=by
 unfold doF at h ⊢;by_cases he:eErr b = .no
 ·rw [if_pos he] at h ⊢
  exact⟨he,qqt b 0 l [] h⟩
 ·rw [if_neg he] at h
  exact absurd h he
theorem q6f {l:qq} {b:List ql} (hn:GN l) (hl:GL l) (h:(doF l b).1 = .no) (hx:(doF l b).2.1.next≤1000000):∀ x∈vv l b,EdB x:=fun x hx2=>by
 obtain⟨he,ht,ha⟩:=qqu h
 have hb:b.length≤40:=by
  unfold eErr at he;split at he
  ·simp at he
  ·omega
 have hg:=qm0 hn b;have hg1:=hg.nx;unfold vv at hx2;have h1:=qkt 2000000 (wq b l).reverse [] (doF l b).2.1.next (fun s hs=>qvy 2000000 b l hn ht (by rw [← ha];omega) s (by simpa using hs)) (fun t h1 h2=>by simp [wb];omega) (by omega) (by rw [List.length_reverse,qgn];omega) x hx2
 have h2:x.fields=[]∨zw x.fields = .no:=by
  rcases qum _ _ _ x hx2 with h | ⟨s,hs,hk,e⟩
  ·exact .inl h
  ·exact .inr (by rw [e];exact qnz b l hn hl ht s (by simpa using hs) hk)
 have hG:GF x.fields:=by
  rcases h2 with h|h
  ·rw [h];exact⟨by simp,by simp⟩
  ·exact⟨(qc7 h).2.1,(qc7 h).2.2⟩
 exact qx3 (k:=x.kind) (n:=x.id) (fs:=x.fields) (by omega) (by omega) hG
theorem qv5 {text:qa} {b:jp} {bs:List (List ql)} {x:List ql} {r:RunV} (hT:vu text b) (hb:b.batches=bs++[x]) (h:jf b.base bs=(.no,r)) (hd:(doF r.l x).1 = .no) (d5:b.batches.length≤14000) :
  (appF text (vv r.l x)).1 = .num 11∨∃ b2 r2,(appF text (vv r.l x)).1 = .no∧vu (appF text (vv r.l x)).2 b2∧b2.base=b.base∧b2.batches=b.batches++[vv r.l x]∧jf b2.base b2.batches=(.no,r2) ∧
   (doF (doF r.l x).2.1 (vv r.l x)).1 = .no∧r2.l=(doF (doF r.l x).2.1 (vv r.l x)).2.1∧(stzF r2.l.ents).map Prod.snd=(stzF r.l.ents).map Prod.snd:=by
 have hp:=qj1 h;have hn:GN r.l:=by have:=qzr b.base bs;rw [h] at this;exact this
 have hl:GL r.l:=by have:=qzq b.base bs hp;rw [h] at this;exact this
 obtain⟨u1,u2,u3⟩:=q3d hn hl hd;have hs:=qls h hd;have pg:=(qfn b.base (bs++[x]) (by rw [← hb];exact d5)).1.nx1;rw [hs] at pg;simp only at pg;have hB:=q6f hn hl hd (by have:(y6 r x).l=(doF r.l x).2.1:=rfl;rw [← this];omega);have hr2:=qls hs (x:=vv r.l x) u2;unfold appF;rw [qti hT];simp only;rw [u1];simp only;split
 ·exact .inl rfl
 ·split
  ·exact .inl rfl
  ·rename_i h1 h2
   refine .inr ?_;simp only;rw [hT.take];have hw:=hT.whole;have hgB:qc5 (vv r.l x):=⟨u1,hB,by omega⟩;have hm:=hT.more hgB (by rw [List.length_append];omega);refine⟨_,y6 (y6 r x) (vv r.l x),trivial,hm,rfl,rfl,?_,u2,rfl,u3⟩
   show jf b.base (b.batches++[vv r.l x])=_
   rw [hb];exact hr2
structure qht where
 rep:Int
 del:Int
 ins:Int
 first:Int
 last:Int
 bytes:Int
def entF (b:List ql) (g:List Int) (n:Int):qht:=
 ⟨(b.countP fun x=>decide (x.kind=1):Nat),(b.countP fun x=>decide (x.kind=2):Nat),(b.countP fun x=> !decide (x.kind=1) && !decide (x.kind=2):Nat),g.headD 0,g.getLastD 0,n⟩
def logL:List (List ql)→List (List Int)→List qht
 |b::bs,g::gs=>entF b g (recE b).length::logL bs gs
 | _,_=>[]
theorem qyw:∀ (bs:List (List ql)) (gs:List (List Int)),gs.length=bs.length→(logL bs gs).length=bs.length
 | [],gs,_=>by cases gs <;> rfl
 |x::bs,[],h=>by simp at h
 |x::bs,y::gs,h=>by rw [logL,List.length_cons,qyw bs gs (by simpa using h),List.length_cons]
theorem q5n {text:qa} {b:jp} (h:vu text b) {i:Nat} {x:List ql} (hx:b.batches[i]? = some x):∃ p:Nat,(qdn b)[i]? = some (p:Int)∧b.ends[i]? = some ((p:Int)+(recE x).length):=by
 have hi:=(List.getElem?_eq_some_iff.1 hx).1;refine⟨(qbk b i).length,qmd h (by omega),?_⟩;have h2:=qmd h (n:=i+1) (by omega);have e:(qdn b)[i+1]? = b.ends[i]?:=by unfold qdn;rw [List.getElem?_cons_succ]
 rw [e] at h2;rw [h2];have ht:b.batches.take (i+1)=b.batches.take i++[x]:=by rw [List.take_add_one,hx];rfl
 unfold qbk;rw [ht,qlw];simp;omega
def runT (text:qa):RunV:=(jf (jt text).2.base (jt text).2.batches).2
def logH (text:qa):ErrV×List qht:=if (jn text).1 = .no then (.no,logL (jn text).2.1.batches (runT text).given) else ((jn text).1,[])
def qal (text:qa):ErrV×List ql:=
 if (jn text).1 = .no then (match (jn text).2.1.batches.getLast? with
  |none=>(.num 7,[])
  |some x=>(.no,vv (yt (jn text).2.1 ((jn text).2.1.batches.length - 1:Nat)).2.l x)) else ((jn text).1,[])
def kq (text:qa):ErrV×qa:=if (qal text).1 = .no then appF text (qal text).2 else ((qal text).1,[])
theorem q25 {text:qa} {b:jp} {r:RunV} (hT:vu text b) (hp:jf b.base b.batches=(.no,r)):runT text=r:=by
 unfold runT;rw [qti hT];simp only;rw [hp]
theorem qiq {text:qa} {b:jp} {r:RunV} {bs:List (List ql)} {x:List ql} (hT:vu text b) (hb:b.batches=bs++[x]) (hp:jf b.base b.batches=(.no,r)) :
  ∃ r1,jf b.base bs=(.no,r1)∧(doF r1.l x).1 = .no∧r.l=(doF r1.l x).2.1∧qal text=(.no,vv r1.l x):=by
 have h:=hp;rw [hb] at h;obtain⟨r1,h1,h2⟩:=q8f h;obtain⟨h3,rfl⟩:=qzs h2;refine⟨r1,h1,h3,rfl,?_⟩;unfold qal;rw [qgj hT hp];simp only;have e:b.batches.getLast? = some x:=by rw [hb];simp
 rw [if_pos trivial,e];simp only;have hl:b.batches.length - 1=bs.length:=by rw [hb];simp
 have ht:b.batches.take bs.length=bs:=by rw [hb];simp
 unfold yt;rw [if_neg (by rw [hl,hb];simp;omega),hl];simp only [Int.toNat_natCast];rw [ht,h1]
theorem zg3 {text:qa} {b:jp} {r:RunV} {bs:List (List ql)} {x:List ql} (hT:vu text b) (hb:b.batches=bs++[x]) (hp:jf b.base b.batches=(.no,r)) (d5:b.batches.length<14000) :
  (kq text).1 = .num 11∨((kq text).1 = .no∧∃ b2 r2,vu (kq text).2 b2∧jf b2.base b2.batches=(.no,r2)∧jn (kq text).2=(.no,b2,r2.l) ∧
   (stzF r2.l.ents).map Prod.snd=(stzF (yt b (bs.length:Nat)).2.l.ents).map Prod.snd ∧
   ((kq (kq text).2).1 = .num 11∨((kq (kq text).2).1 = .no∧∃ (b3:jp) (r3:RunV),vu (kq (kq text).2).2 b3∧jn (kq (kq text).2).2=(.no,b3,r3.l)∧(stzF r3.l.ents).map Prod.snd=(stzF r.l.ents).map Prod.snd))):=by
 obtain⟨r1,h1,h2,h3,h4⟩:=qiq hT hb hp;have e1:kq text=appF text (vv r1.l x):=by unfold kq;rw [h4];exact if_pos rfl
 have hbh:(yt b (bs.length:Nat)).2.l=r1.l:=by
  unfold yt;have ht:b.batches.take bs.length=bs:=by rw [hb];simp
  rw [if_neg (by rw [hb];simp;omega)];simp only [Int.toNat_natCast];rw [ht,h1]
 rw [e1,hbh];rcases qv5 hT hb h1 h2 (by omega) with g | ⟨b2,r2,g1,g2,g3,g4,g5,g6,g7,g8⟩
 ·exact .inl g
 ·refine .inr ⟨g1,b2,r2,g2,g5,qgj g2 g5,g8,?_⟩
  obtain⟨r4,k1,k2,k3,k4⟩:=qiq g2 g4 g5
  have e2:kq (appF text (vv r1.l x)).2=appF (appF text (vv r1.l x)).2 (vv r4.l (vv r1.l x)):=by
   conv=>lhs;unfold kq
   rw [k4];exact if_pos rfl
  rw [g3,hp] at k1;simp only [Prod.mk.injEq,true_and] at k1;subst k1;rw [e2];rcases qv5 g2 g4 (by rw [g3];exact hp) k2 (by rw [g4,List.length_append];simp;omega) with q | ⟨b3,r3,q1,q2,q3,q4,q5,q6,q7,q8⟩
  ·exact .inl q
  ·exact .inr ⟨q1,b3,r3,q2,qgj q2 q5,q8⟩
theorem qua (id:Int):∀ (S:List (Int×List Fld)) (k:Nat) (p:Int),
  (qfy id k S = -1∧w8 id p S=0)∨(qfy id k S=(k:Int)∧w8 id p S=p)∨∃ (i:Nat) (s:Int×List Fld),S[i]? = some s∧qfy id k S=((k+(i+1):Nat):Int)∧w8 id p S=s.1
 | [],k,p=>.inl ⟨by rw [qfy],by rw [w8]⟩
 |s::r,k,p=>by
  rw [qfy,w8];by_cases h:s.1=id
  ·rw [if_pos h,if_pos h]
   exact .inr (.inl ⟨rfl,rfl⟩)
  ·rw [if_neg h,if_neg h]
   rcases qua id r (k+1) s.1 with⟨h1,h2⟩ | ⟨h1,h2⟩ | ⟨i,x,h0,h1,h2⟩
   ·exact .inl ⟨h1,h2⟩
   ·exact .inr (.inr ⟨0,s,rfl,by rw [h1],h2⟩)
   ·exact .inr (.inr ⟨i+1,x,by simpa using h0,by rw [h1];congr 1;omega,h2⟩)
theorem q0m (l:qq) (id:Int):(qii l id≤0∧qb9 l id=0)∨∃ (i:Nat) (s:Int×List Fld),qii l id=((i+1:Nat):Int)∧(stzF l.ents)[i]? = some s∧qb9 l id=s.1:=by
 unfold qii qb9;rcases qua id (stzF l.ents) 0 0 with⟨h1,h2⟩ | ⟨h1,h2⟩ | ⟨i,s,h0,h1,h2⟩
 ·exact .inl ⟨by omega,h2⟩
 ·exact .inl ⟨by omega,h2⟩
 ·exact .inr ⟨i,s,by rw [h1];congr 1;omega,h0,h2⟩
theorem q14 {id:Int} (h:1≤id):∀ (es:List EntV) (k:Nat),(xd id k es = -1∧(stzF es).find? (fun s=>decide (s.1=id))=none) ∨
  ∃ (i:Nat) (e:EntV),es[i]? = some e∧xd id k es=((k+i:Nat):Int)∧(stzF es).find? (fun s=>decide (s.1=id))=some (id,e.x.fields)
 | [],k=>.inl ⟨by rw [xd],rfl⟩
 |e::r,k=>by
  rw [xd,qa1];by_cases he:e.id=id
  ·rw [if_pos he,if_pos (by omega)]
   exact .inr ⟨0,e,rfl,rfl,by rw [List.find?_cons_of_pos (by simp [he]),he]⟩
  ·rw [if_neg he]
   have hr:=q14 h r (k+1)
   have key:(if 0<e.id then (e.id,e.x.fields)::stzF r else stzF r).find? (fun s=>decide (s.1=id))=(stzF r).find? (fun s=>decide (s.1=id)):=by
    split
    ·rw [List.find?_cons_of_neg (by simp [he])]
    ·rfl
   rw [key];rcases hr with⟨h1,h2⟩ | ⟨i,x,h0,h1,h2⟩
   ·exact .inl ⟨h1,h2⟩
   ·exact .inr ⟨i+1,x,by simpa using h0,by rw [h1];congr 1;omega,h2⟩
theorem qyi (l:qq) (id:Int):(atF l id<0∧(1≤id→qb4 l id=[]))∨∃ (i:Nat) (e:EntV),atF l id=(i:Int)∧l.ents[i]? = some e∧qb4 l id=e.x.fields:=by
 unfold atF qb4;by_cases h:id<1
 ·rw [if_pos h]
  exact .inl ⟨by omega,fun q=>by omega⟩
 ·rw [if_neg h]
  rcases q14 (by omega:1≤id) l.ents 0 with⟨h1,h2⟩ | ⟨i,e,h0,h1,h2⟩
  ·exact .inl ⟨by omega,fun _=>by rw [h2];rfl⟩
  ·exact .inr ⟨i,e,by rw [h1];congr 1;omega,h0,by rw [h2];rfl⟩
theorem qs0:∀ (b:List ql) (l:qq) (i:Nat) (x:ql),b[i]? = some x→(wq b l)[i]? = some (yn (kg (b.take i) l) x)
 | [],l,i,x,h=>by simp at h
 |y::r,l,0,x,h=>by
  simp only [List.getElem?_cons_zero,Option.some.injEq] at h;subst h
  rfl
 |y::r,l,i+1,x,h=>by
  rw [List.getElem?_cons_succ] at h;rw [wq,List.getElem?_cons_succ,qs0 r _ i x h];rfl
end Go.Pl
namespace Go.Pl
open Go Go.Proofs Go.Av Go.Proofs.YtihlchbgjdkmpaaGreatDoor
def dupS (key:qa) (pre:List (Int×List Fld)) (x:Int×List Fld):Bool:=(qn2 key x.2).any fun v=>pre.any fun y=>decide (v∈qn2 key y.2)
def q94 (r:qcj) (pre:List (Int×List Fld)) (x:Int×List Fld):Prop:=x.2.any (badR r)=true∨(r.kind=1∧cntR r x.2=0)∨(r.kind=2∧1<cntR r x.2)∨(r.kind=7∧dupS r.key pre x=true)
instance (r:qcj) (pre:List (Int×List Fld)) (x:Int×List Fld):Decidable (q94 r pre x):=inferInstanceAs (Decidable (_∨(_∧_)∨(_∧_)∨(_∧_)))
end Go.Pl
namespace Go.Proofs.YtihlchbgjdkmpaaGreatDoor
open Go Go.Av Go.RowKit Go.Proofs Go.Pl
theorem zb1 (b:jp) (st:List AObj) (hB:BkB b):qn E 69 [qaj b] st fun r st'=>r = .tu [qm5 (if (jf b.base b.batches).1 = .no then (jf b.base b.batches).2.given else []),errA (jf b.base b.batches).1]∧st'=st:=by
 have hp:=fun st=>q24 b.base b.batches st hB.base hB.len hB.bat;refine zx [.a (.ag [Iv b.gen,Sv b.base,qbx b.batches,yw b.ends,Sv b.tail])] (kc (qjt _) (jx _)) Tryz.func69 rfl rfl (fun _=>rfl) rfl fun S0=>?_;generalize jf b.base b.batches=p at *;obtain⟨e,r⟩:=p
 cases e
 all_goals apply qd [1]
 repeat' (first|apply And.intro|(intro h;try exact cDd)|exact⟨Tryz.call37⟩|refine cpe hp ?_|exact cSd|apply qb [1]|refine exr ?_|refine qi ?_)
end Go.Proofs.YtihlchbgjdkmpaaGreatDoor
namespace Go.Pl
open Go
def i64 (n:Int):Prop:= -9223372036854775808≤n∧n≤9223372036854775807
end Go.Pl
namespace Go.Proofs.YtihlchbgjdkmpaaGreatDoor
open Go Go.Av Go.RowKit Go.Proofs Go.Pl
structure ItC2 (g:FuncId) (T:TypeId) (cs:List AV) {ι : Type} (Y : ι→Option ((AV×AV)×ι)) (i0 : ι):Prop where
 run:∀ (o kb n m:Nat) (I : ι→List AObj→Prop) (D:List AObj→Prop) (S:List AObj),S.length=m→n≤m→I i0 S →
  (∀ i S',I i S'→S'[kb]? = some (.cells 0 T cs))→(∀ i S' S'',Ext n S' S''→I i S'→I i S'') →
  (∀ i x j S' (own:List AObj),I i S'→(∀ k y,own[k]? = some y→S'[m+k]? = some y∧qe3 (some y))→Y i=some (x,j)→xk E o [x.1,x.2] S' fun b S''=>(∀ k y,own[k]? = some y→S''[m+k]? = some y)∧(b=true→I j S'')∧(b=false→D S'')) →
  qn E g [.yd o,.bx kb 0 0] S fun r S'=>(∃ i,Y i=none∧I i S')∨D S'
theorem qwe {N:Nat} {Q:Exit→AS→Prop} {s:AS} {f:Operand} {p q:Tmp} {asg body:Code} {S0:List AObj} {kb:Nat} {g:FuncId} {T:TypeId} {cs:List AV} {ι : Type} {Y : ι→Option ((AV×AV)×ι)} {i0 : ι} (pd:ItC2 g T cs Y i0) (d8:s.st=S0) (hx:qg N s f = .fn (.func g) [] [.bx kb 0 0])
  (a8:∀ vs w,(callFunc g vs).run E.P w = .ok (.enter g vs) w)
  (I : ι→List AObj→Prop) (D:Code→List AObj→Prop) (h0:I i0 S0)
  (hI:∀ i S,I i S→S[kb]? = some (.cells 0 T cs))
  (lw:∀ i S S',Ext S0.length S S'→I i S→I i S') (ml:∀ c S S',Ext S0.length S S'→D c S→D c S')
  (hb:∀ F (own:List AObj) rd i x j S,qis F N s.t #[p,q] asg body→I i S→Y i=some (x,j)→S[S0.length]? = some .dfr→S[S0.length+1]? = some (F .ready none)→(∀ k y,own[k]? = some y→S[S0.length+2+k]? = some y∧qe3 (some y)) →
   AWp E (some rd) N asg (only fun s1=>s1.st[S0.length+1]? = some (F .ready none)∧s1.df=[]∧AWp E (some rd) N body (q8r S0.length F own (I j) D) ⟨s1.t,s1.st.set (S0.length+1) (F .busy none),[]⟩) ⟨put (put s.t p x.1) q x.2,S,[]⟩)
  (hn:∀ i S,Y i=none→I i S→S[S0.length]? = some .dfr→Q .normal ⟨s.t,S,S0.length::s.df⟩)
  (hd:∀ c S,D c S→S[S0.length]? = some .dfr→AWp E none N c Q ⟨s.t,S,S0.length::s.df⟩):AWp E none N (.rangeFunc f #[p,q] asg body) Q s:=by
 refine qg3 (st:=S0) (loc:=[]) (by rw [d8];simp) hx a8 fun F hF=>?_;have hl:(S0++([]++[AObj.dfr,F .ready none])).length=S0.length+2:=by simp
 have g1:(S0++([]++[AObj.dfr,F .ready none]))[S0.length]? = some .dfr:=by simp
 have g2:(S0++([]++[AObj.dfr,F .ready none]))[S0.length+1]? = some (F .ready none):=by simp
 have hz:S0.length+(([]:List AObj).length+1)=S0.length+1:=by simp
 rw [hz,show S0.length+([]:List AObj).length=S0.length from rfl];refine qn.mono (pd.run (S0.length+1) kb (S0.length+2) (S0.length+2) (fun i S=>I i S∧S[S0.length]? = some .dfr∧S[S0.length+1]? = some (F .ready none)) (fun S=>∃ c,D c S∧S[S0.length]? = some .dfr∧S[S0.length+1]? = some (F .done (some c))) (S0++([]++[.dfr,F .ready none])) hl (Nat.le_refl _) ⟨lw _ _ _ (qfi (Nat.le_refl _)) h0,g1,g2⟩ (fun i S h=>hI i S h.1) (fun i S S' hE h=>⟨lw _ _ _ (hE.weak (by omega)) h.1,(hE.low _ (by omega)).trans h.2.1,(hE.low _ (by omega)).trans h.2.2⟩) ?_) ?_
 ·rintro i x j S' own ⟨hi,hd1,gk⟩ u7 hy
  refine qkr hF gk rfl fun rd=>?_;refine (hb F own rd i x j S' hF hi hy hd1 gk u7).mono fun e s1 hq=>?_;have fin:∀ {S:List AObj} {z:AObj},(∀ k y,own[k]? = some y→S[S0.length+2+k]? = some y)→∀ k y,own[k]? = some y→(S.set (S0.length+1) z)[S0.length+2+k]? = some y:=fun h k y hk=>jg (h k y hk) (by omega)
  cases e with
  |normal=>
   obtain⟨q1,q2,q3⟩:=hq;refine⟨q1,q2,q3.mono fun e s2 o6=>?_⟩
   cases e with
   |normal=>
    obtain⟨k1,k2,k3,k4⟩:=o6
    exact⟨k2,fin k3,fun _=>⟨lw _ _ _ (yu (by omega) (qba hF _ _ k2)) k4,jg k1 (by omega),jq k2⟩,nofun⟩
   |ret=>
    obtain⟨k1,k2,k3,k4⟩:=o6
    exact⟨k2,fin k3,nofun,fun _=>⟨_,ml _ _ _ (yu (by omega) (qba hF _ _ k2)) k4,jg k1 (by omega),jq k2⟩⟩
   |exit id=>
    obtain⟨k1,k2,k3,k4⟩:=o6
    exact⟨k2,fin k3,nofun,fun _=>⟨_,ml _ _ _ (yu (by omega) (qba hF _ _ k2)) k4,jg k1 (by omega),jq k2⟩⟩
   | _=>exact o6.elim
  | _=>exact hq.elim
 ·rintro r S' (⟨i,hy,hi,hd1,gk⟩ | ⟨c,hi,hd1,gk⟩)
  ·exact⟨.ready,none,nofun,gk,hn i _ hy (lw _ _ _ (yu (by omega) (qba hF _ _ gk)) hi) (jg hd1 (by omega))⟩
  ·exact⟨.done,some c,nofun,gk,hd c _ (ml _ _ _ (yu (by omega) (qba hF _ _ gk)) hi) (jg hd1 (by omega))⟩
def evY2 {ι : Type} (Y : ι→Option ((SV×SV)×ι)) (i : ι):Option ((AV×AV)×ι):=match Y i with
 |some (v,j)=>some ((v.1.ev fun _=>zj,v.2.ev fun _=>zj),j)
 |none=>none
section
variable {N : Nat} {B : Bs} {C : Conf} {Q : Exit → Conf → Prop} {rd : Option Nat}
theorem qz4 {X:Type} {f:Operand} {p q:Tmp} {asg body:Code} {g:FuncId} {T:TypeId} {cs:List AV} {ι : Type} {Y : ι→Option ((SV×SV)×ι)} {i0 : ι} (pd:ItC2 g T cs (evY2 Y) i0) (a8:∀ vs w,(callFunc g vs).run E.P w = .ok (.enter g vs) w) (hY:∀ i v j,Y i=some (v,j)→(v.1.all (fun _=>false) && v.2.all (fun _=>false))=true) (kb n0:Nat) (cv:List SV) (hcv:∀ ρ,SV.evs ρ cv=cs) (ks:List Nat) (I:X→Conf) (sl0:List (Nat×SV)) (P : ι→X→Prop) (D:Code→X→Prop) (x0:X) (h0:P i0 x0)
  (he:EntA B.n0 C (I x0)) (hz:¬ B.dz) (gb:∀ x,(I x).sl=sl0)
  (hf:sval N sl0 f=some (.fn (.func g) [] [.bx kb 0]))
  (rz:∀ x,lkS (I x).hp kb=some (some (.cells T cv)))
  (hr:∀ x,y5 n0 ks (I x).sl (I x).hp (I x).nx=true) (h0r:(ksIn n0 ks (I x0).hp && Nat.ble B.n0 n0)=true)
  (hb:∀ i x v j,P i x→Y i=some (v,j)→RA E N n0 asg (fun F ρ C1=>RB E N F ρ n0 body (rndQ n0 (P j) D I) C1) ⟨(q,v.2)::(p,v.1)::(I x).sl,(I x).hp,(I x).nx⟩)
  (hn:∀ i x,Y i=none→P i x→Q .normal (I x)) (hd:∀ c x,D c x→qws Q c (I x)):Sm E none N B (.rangeFunc f #[p,q] asg body) Q C:=⟨fun s hs=>by
 obtain⟨ts,S0,df⟩:=s;obtain⟨ρ0,hF0,hR0⟩:=hs;simp only at hF0 hR0;obtain⟨σ,hrg,he⟩:=he.ent;have sq:=hF0.ren (C':=I x0) hrg;obtain⟨t,hw,gc⟩:=he.sat hR0;clear hF0 hR0 he hrg;generalize renR σ ρ0 = ρ1 at sq gc;refine qxo hw ?_;simp only [Bool.and_eq_true] at h0r;have hBn:=Nat.le_of_ble_eq_true h0r.2;have hB:=gc.len
 have dv:∀ k∈ks,k<n0∧∃ o,zm (ρ1 k)=some o∧o<S0.length:=fun k hk=>by
  have:=List.all_eq_true.1 h0r.1 k hk;simp only [Bool.and_eq_true] at this;refine⟨ku this.1,?_⟩;have h2:=this.2;split at h2
  ·rename_i T cs hl
   have bq:hpF (I x0).hp k=some (.cells T cs):=by unfold hpF;rw [hl]
   obtain⟨o,v,h1,h3,rfl⟩:=gc.hp.ok k _ bq;exact⟨o,by rw [h1];rfl,lt_of_getElem? h3⟩
  ·rename_i P hl
   have bq:hpF (I x0).hp k=some (.obj P):=by unfold hpF;rw [hl]
   obtain⟨o,x,h1,h3,_⟩:=gc.hp.ok k _ bq;exact⟨o,h1,lt_of_getElem? h3⟩
  ·simp at h2
 have td:∀ d∈df,d<S0.length:=fun d hd=>lt_of_getElem? (sq.dm d hd).1;have hi0:RInv B n0 S0.length ks ρ1 t df (I x0) S0:=⟨ρ1,fun _ _=>rfl,gc,fun d hd=>(sq.dm d hd).1,Nat.le_refl _⟩
 have hnm:∀ x,(sl0.all fun q=>q.2.all fun k=>Nat.blt k n0)=true:=fun x=>by
  have:=hr x;simp only [y5,Bool.and_eq_true,gb] at this;exact this.1.1
 have hnm:=hnm x0
 have slot:∀ {ρ : Nat→AV},(∀ k,k<n0→ρ k = ρ1 k)→SlOk ρ t sl0:=fun {ρ} hρ d v hd=>by
  rw [gc.sl d v (by rw [gb];exact hd)];exact (yy (fun k hk=>hρ k (ku hk)) v (List.all_eq_true.1 hnm _ (ko hd))).symm
 have dk:∀ x,n0≤(I x).nx:=fun x=>by
  have:=hr x;simp only [y5,Bool.and_eq_true] at this;exact Nat.le_of_ble_eq_true this.2
 have hkb1:kb<n0∧∃ o,ρ1 kb = .bx o 0 0∧o<S0.length:=by
  have h1:=hr x0;simp only [y5,Bool.and_eq_true] at h1;have:=List.all_eq_true.1 h1.1.2 _ (ko (rz x0));have bq:hpF (I x0).hp kb=some (.cells T cv):=by unfold hpF;rw [rz x0]
  obtain⟨o,v,h1,h3,rfl⟩:=gc.hp.ok kb _ bq;exact⟨(dv kb (qle this)).1,o,h1,lt_of_getElem? h3⟩
 obtain⟨hkbn,okb,hokb,hokl⟩:=hkb1;have rq:=qv (S:=S0) (df:=df) (slot fun _ _=>rfl) hf;simp only [SV.ev,SV.evs,hokb,bxAt] at rq
 have out:∀ {x S},RInv B n0 S0.length ks ρ1 t df (I x) S→S[S0.length]? = some .dfr→SatC B (I x) ⟨t,S,S0.length::df⟩:=fun {x S} hi hm=>by
  obtain⟨ρ,hρ,hR,fm,hnS⟩:=hi.ex;refine⟨ρ,⟨fun d hd=>?_,List.nodup_cons.2 ⟨fun h=>Nat.lt_irrefl _ (td _ h),sq.nd⟩,fun k hk=>(hρ k (by omega)).trans (sq.rig k hk),Nat.le_trans hBn (dk x),fun h=>(hz h).elim⟩,hR⟩;rcases List.mem_cons.1 hd with rfl|hd
  ·exact⟨hm,hB⟩
  ·exact⟨fm d hd,(sq.dm d hd).2⟩
 refine qwe (S0:=S0) pd rfl rq a8
  (fun i S=>∃ x,P i x∧RInv B n0 S0.length ks ρ1 t df (I x) S) (fun c S=>∃ x,D c x∧RInv B n0 S0.length ks ρ1 t df (I x) S) ⟨x0,h0,hi0⟩ ?_ ?_ ?_ ?_ ?_ ?_
 ·rintro i S ⟨x,_,hi⟩
  obtain⟨ρ,hρ,hR,_⟩:=hi.ex;have bq:hpF (I x).hp kb=some (.cells T cv):=by unfold hpF;rw [rz x]
  obtain⟨o,v,h1,h3,rfl⟩:=hR.hp.ok kb _ bq;rw [hρ kb hkbn,hokb] at h1;simp only [AV.bx.injEq] at h1;obtain⟨rfl,_⟩:=h1;rw [hcv] at h3;exact h3
 ·rintro i S S' hE ⟨x,hx,hi⟩
  exact⟨x,hx,hi.ext dv (hr x) hB td hE⟩
 ·rintro c S S' hE ⟨x,hx,hi⟩
  exact⟨x,hx,hi.ext dv (hr x) hB td hE⟩
 ·rintro F own rd i u j S hF ⟨x,hx,hi⟩ hy fp hm1 pj
  obtain⟨v,hv,hu⟩:∃ v,Y i=some (v,j)∧u=(v.1.ev fun _=>zj,v.2.ev fun _=>zj):=by
   unfold evY2 at hy;split at hy
   ·rename_i v j2 hv
    simp only [Option.some.injEq,Prod.mk.injEq] at hy;obtain⟨rfl,rfl⟩:=hy;exact⟨v,hv,rfl⟩
   ·simp at hy
  subst hu;have hva:=hY i v j hv;obtain⟨ρ,hρ,hR,fm,hnS⟩:=hi.ex
  -- what no resource's place is
  have qai:∀ o y,S[o]? = some y→S0.length≤o→(∀ m sz T,y≠.tip m sz T)→¬ x9 (I x).hp ρ o:=fun o y hy ho hyt ⟨k,r,hk,hl⟩=>by
   rcases SR.ok_ct (hR.hp.ok k r hk) hl with⟨T,cs,v,h1,T',cs',rfl⟩ | ⟨m,sz,T,h1⟩ | ⟨sz,T,xs,rfl⟩ | ⟨P1,rfl⟩ | ⟨T2,ys2,cs2,rfl⟩
   rotate_left 2
   ·exact (qzk (hr x) hk).elim
   ·obtain⟨_,o',h2,h3⟩:=qzb dv (hr x) hρ hk
    rw [h2] at hl;simp only [Option.some.injEq] at hl;omega
   ·exact (qty (hr x) hk).elim
   ·obtain⟨_,o',h2,h3⟩:=qpy dv (hr x) hρ hk
    rw [h2] at hl;simp only [Option.some.injEq] at hl;omega
   ·rw [h1] at hy
    simp only [Option.some.injEq] at hy;exact hyt _ _ _ hy.symm
  have a0:=qai _ _ fp (by omega) (fun _ _ _=>by simp);have a1:=qai _ _ hm1 (by omega) (fun _ _ _=>by rw [hF];simp);have a2:=fun k y hk=>qai _ _ (pj k y hk).1 (by omega) (fun m sz T e=>(pj k y hk).2 m sz T (by rw [e]));have ad:∀ d∈df,¬ x9 (I x).hp ρ d:=fun d hd ⟨k,r,hk,hl⟩=>SR.ok_dfr (hR.hp.ok k r hk) hl (fm d hd);have l2:=lt_of_getElem? hm1
  have s1:=((hb i x v j hx hv).run S (x9 (I x).hp ρ) ρ1 rd).run ⟨put (put t p (v.1.ev fun _=>zj)) q (v.2.ev fun _=>zj),S,[]⟩
   ⟨ρ,⟨nofun,List.nodup_nil,hρ,dk x,fun _=>rfl⟩,?_⟩
  rotate_left
  ·have p6:=hR.rebase (S':=S) fun _ _=>rfl
   refine⟨fun d v hd=>?_,p6.hp,p6.own,p6.low,p6.len,fun d v hd=>?_,p6.whp⟩
   ·have px:=hva
    simp only [Bool.and_eq_true] at px;simp only [lkS] at hd
    cases hbq:Nat.beq q d with
    |true=>
     rw [hbq] at hd;simp only [cond_true,Option.some.injEq] at hd;have e:=Nat.eq_of_beq_eq_true hbq;subst e hd;simp only [put];rw [yy (f:=fun _=>false) (ρ:=fun _=>zj) (ρ':= ρ) (fun k hk=>by simp at hk) v.2 px.2]
     simp
    |false=>
     rw [hbq] at hd;have eq:d≠q:=fun e=>by subst e;simp at hbq
     simp only [cond_false] at hd
     cases s7:Nat.beq p d with
     |true=>
      rw [s7] at hd;simp only [cond_true,Option.some.injEq] at hd;have e:=Nat.eq_of_beq_eq_true s7;subst e hd;simp only [put];rw [show Nat.beq p q=false from ji eq];rw [yy (f:=fun _=>false) (ρ:=fun _=>zj) (ρ':= ρ) (fun k hk=>by simp at hk) v.1 px.1]
      simp
     |false=>
      rw [s7] at hd;have e:d≠p:=fun e=>by subst e;simp at s7
      have:=p6.sl d _ hd;simp only [put];rw [show Nat.beq d q=false from ji eq,show Nat.beq d p=false from ji e];exact this
   ·have px:=hva
    simp only [Bool.and_eq_true] at px;simp only [lkS] at hd
    cases hbq:Nat.beq q d with
    |true=>
     rw [hbq] at hd;simp only [cond_true,Option.some.injEq] at hd;subst hd
     exact all_mono (f:=fun _=>false) (fun k hk=>by simp at hk) v.2 px.2
    |false=>
     rw [hbq] at hd;simp only [cond_false] at hd
     cases s7:Nat.beq p d with
     |true=>
      rw [s7] at hd;simp only [cond_true,Option.some.injEq] at hd;subst hd
      exact all_mono (f:=fun _=>false) (fun k hk=>by simp at hk) v.1 px.1
     |false=>
      rw [s7] at hd;exact p6.wsl d _ hd
  refine s1.mono fun e s1 ⟨C1,hq,lw⟩=>?_
  cases e with
  |normal=>
   obtain⟨ρs,hFs,sr⟩:=lw;have hdf1:=hFs.dz trivial;have b1:s1.st[S0.length+1]? = some (F .ready none):=(sr.low _ (by simp only;omega) a1).trans hm1;refine⟨b1,hdf1,?_⟩;have hq:=(hq (x9 C1.hp ρs)).run (s1.st.set (S0.length+1) (F .busy none)) (some rd)
   have c0:∀ o,o<S.length→¬ x9 (I x).hp ρ o→¬ x9 C1.hp ρs o:=fun o ho hn ⟨k,r,hk,hl⟩=>by
    rcases sr.own k r hk o hl with h|h
    ·simp only at h
     omega
    ·exact hn h
   have hRb:=sr.rebase (S':=s1.st.set (S0.length+1) (F .busy none)) fun o ho=>List.getElem?_set_ne fun e=>c0 (S0.length+1) (by omega) a1 (by rw [e];exact ho);refine (hq.run ⟨s1.t,s1.st.set (S0.length+1) (F .busy none),[]⟩ ⟨ρs,⟨nofun,List.nodup_nil,hFs.rig,hFs.le,nofun⟩,hRb⟩).mono fun e s2 ⟨C2,o6,ml⟩=>?_;obtain⟨ρ2,hF2,gr⟩:=ml;have u0:=sr.len
   have keep:∀ o y,o≠S0.length+1→S[o]? = some y→¬ x9 (I x).hp ρ o→s2.st[o]? = some y:=fun o y b9 hy hn=>by
    have ho:=lt_of_getElem? hy;rw [gr.low o (by simp only [List.length_set];simp only at u0;omega) (c0 o ho hn)];simp only;rw [List.getElem?_set_ne (fun e=>b9 e.symm),sr.low o ho hn];exact hy
   have k0:=keep _ _ (by omega) fp a0;have k2:∀ k y,own[k]? = some y→s2.st[S0.length+2+k]? = some y:=fun k y hk=>keep _ _ (by omega) (pj k y hk).1 (a2 k y hk)
   have k1:s2.st[S0.length+1]? = some (F .busy none):=by
    rw [gr.low _ (by simp only [List.length_set];simp only at u0;omega) (c0 _ (by omega) a1)];simp only;exact jq b1
   have fin:∀ x',EntA n0 C2 (I x')→RInv B n0 S0.length ks ρ1 t df (I x') s2.st:=fun x' db=>by
    obtain⟨σ2,hrg2,he2⟩:=db.ent;have hF3:=hF2.ren (C':=I x') hrg2;obtain⟨t3,_,nv⟩:=he2.sat gr;have hl3:=nv.len;simp only [List.length_set] at hl3;simp only at u0;refine⟨_,hF3.rig,⟨by rw [gb];exact slot hF3.rig,nv.hp,fun k r hk o ho=>?_,fun j hj hnj=>?_,by omega,nv.wsl,nv.whp⟩,fun d hd=>?_,by omega⟩
    ·rcases nv.own k r hk o ho with h | ⟨k',r',h,h'⟩
     ·simp only [List.length_set] at h
      exact .inl (by omega)
     ·rcases sr.own k' r' h o h' with h | ⟨k2,r2,h2,h3⟩
      ·simp only at h
       exact .inl (by omega)
      ·exact hR.own k2 r2 h2 o h3
    ·have hj0:¬ x9 (I x).hp ρ j:=fun ⟨k',r',h,h'⟩=>by
      rcases hR.own k' r' h j h' with h|h
      ·omega
      ·exact hnj h
     have hjS:j<S.length:=by omega
     rw [← hR.low j hj hnj];obtain⟨y,hy⟩:∃ y,S[j]? = some y:=⟨_,List.getElem?_eq_getElem hjS⟩;rw [hy];exact keep j y (by omega) hy hj0
    ·exact keep d _ (by have:=td d hd;omega) (fm d hd) (ad d hd)
   cases e with
   |normal=>
    obtain⟨x',e7,db⟩:=o6
    exact⟨k0,k1,k2,x',e7,fin x' db⟩
   |ret=>
    obtain⟨x',e7,db⟩:=o6
    exact⟨k0,k1,k2,x',e7,fin x' db⟩
   |exit id=>
    obtain⟨x',e7,db⟩:=o6
    exact⟨k0,k1,k2,x',e7,fin x' db⟩
   | _=>exact o6.elim
  | _=>exact hq.elim
 ·rintro i S hy ⟨x,hx,hi⟩ hm
  exact⟨I x,hn i x (by
   unfold evY2 at hy;split at hy
   ·simp at hy
   ·assumption) hx,out hi hm⟩
 ·rintro c S ⟨x,hx,hi⟩ hm
  have hq:=hd c x hx
  cases c with
  |ret=>exact qu ⟨I x,hq,out hi hm⟩
  |exit id=>exact vc ⟨I x,hq,out hi hm⟩
  | _=>exact hq.elim⟩
end
end Go.Proofs.YtihlchbgjdkmpaaGreatDoor
namespace Go.Av
open Go Go.RowKit
def q5i (H:Nat→Option SR):List (Nat×Option SR)→Prop
 | []=>True
 |(k,r)::l=>H k=r∧q5i H l
theorem qvv {H:Nat→Option SR}:∀ {hp:List (Nat×Option SR)},q5i H hp→resF (ju hp) H=hpF hp
 | [],_=>by funext k;simp [resF,ju,memN,hpF,lkS]
 |(i,r)::l,h=>by
  have ih:=congrFun (qvv h.2);funext k;have:=ih k;unfold resF memN ju hpF at this ⊢;simp only [List.map_cons,List.any_cons,lkS];by_cases e:i=k
  ·subst e
   simp [h.1]
  ·rw [ji e,ji fun h=>e h.symm,Bool.false_or,cond_false]
   exact this
theorem qn8 {E:Env} {f:FuncId} {vs:List SV} {r6:List (Nat×Option SR)} {nx0 nx:Nat} {v:SV} {H:Nat→Option SR} (h:j8 E f vs nx0 (hpF r6) ⟨v,ju r6,r6++kz r6,nx0⟩) (hs:q5i H r6) :
  j8 E f vs nx H ⟨v,ju r6,[],nx⟩:=fun ρ S hS=>by
 have hr:=qvv hs;simp only [hr] at hS;refine (h ρ S (by simpa only [vf] using hS)).mono ?_;rintro r S' ⟨ρ',rfl,hp⟩;have e : ρ' = ρ:=funext fun k=>hp.old k (by simp only;omega);subst e;refine⟨ρ',rfl,fun _ _=>rfl,?_,hp.len,fun j hj hn=>?_,fun k r hk o ho=>?_⟩
 ·have:=hp.sat
  simp only [vf,qcf] at this;have e2:chF [] (resF (ju r6) H)=hpF r6:=by rw [hr];rfl
  simp only [e2];exact this
 ·refine hp.fr j hj fun k r hk=>?_
  simp only [vf] at hk;exact hn k r (by simp only [hr];exact hk)
 ·have e2:chF [] (resF (ju r6) H)=hpF r6:=by rw [hr];rfl
  simp only [e2] at hk;exact .inr ⟨k,r,by simp only [hr];exact hk,ho⟩
end Go.Av
namespace Go.Proofs.YtihlchbgjdkmpaaGreatDoor
open Go Go.Av Go.RowKit Go.Proofs Go.Pl
structure qq0 (l:qq):Prop where
 lb:LB 300040 l
 li:LI l
 lm:LM l
theorem qq0.its {l:qq} (h:qq0 l):ItsB (ja l):=q2p h.lb h.li
theorem qq0.txt {l:qq} (h:qq0 l):(qok l).length≤1000000000000:=q0g h.lb h.li
end Go.Proofs.YtihlchbgjdkmpaaGreatDoor
namespace Go.Av
open Go Go.RowKit
def qhd (w:World):Gh:=⟨fun k=>match w.heap[k]? with
 |some (.cells c _ _)=>some c.toList
 | _=>none,fun _=>⟨0,0,0,false⟩,0⟩
theorem qjx {w:World} {k:Nat} {c:Array Value} {T:TypeId} {fz:Nat×Nat} (h:w.heap[k]? = some (.cells c T fz)):(qhd w).pub k=some c.toList:=by simp only [qhd,h]
theorem q4v (w:World):zf w.heap.size w (qhd w) [] w:=by
 refine⟨⟨rfl,rfl,rfl,Nat.le_refl _,fun _ _=>rfl⟩,Nat.le_refl _,rfl,fun b vs h=>?_,fun o x hx=>by simp at hx,fun o o' x x' _ hx=>by simp at hx⟩;simp only [qhd] at h;split at h
 ·rename_i c T fz hc
  simp only [Option.some.injEq] at h;subst h;exact⟨c,T,fz,hc,fun i y hy=>by simpa using hy⟩
 ·simp at h
theorem za2 {B0:Nat} {w0:World} {G:Gh} {S:List AObj} {w:World} (hA:zf B0 w0 G S w) (b:Nat) (vs:List Value) (h:G.pub b=some vs):∃ ext,(qhd w).pub b=some (vs++ext):=by
 obtain⟨c,T,fz,hc,hv⟩:=hA.pub b vs h;refine⟨c.toList.drop vs.length,?_⟩;rw [qjx hc];congr 1;apply List.ext_getElem?;intro i;by_cases hi:i<vs.length
 ·rw [List.getElem?_append_left hi]
  have:=hv i vs[i] (List.getElem?_eq_getElem hi);rw [List.getElem?_eq_getElem hi]
  simpa using this
 ·rw [List.getElem?_append_right (by omega),List.getElem?_drop]
  congr 1;omega
theorem qne {B0:Nat} {w0:World} {G:Gh} {S:List AObj} {w:World} (hA:zf B0 w0 G S w) {x:AV} {v:Value} (hp:Pure x) (h:Rel G x v):Rel (qhd w) x v:=hp G _ v (za2 hA) h
theorem za3 {B0:Nat} {w0:World} {G:Gh} {S:List AObj} {w:World} (hA:zf B0 w0 G S w) {sz:Nat} {T:TypeId} {xs:List AV} {c:AV} {v:Value} (hx:∀ x∈xs,qfs x) (ho:OwnS S sz T xs c) (h:Rel G c v):Rel (qhd w) (.sl sz xs none) v:=by
 rcases ho with⟨rfl,hn⟩ | ⟨o,ver,cap,pad,rfl,h1,h2,h3,h4,h5⟩
 ·obtain⟨base,rfl⟩:=hn.val G v h
  exact .sl0 sz none base 0 nofun
 ·obtain⟨g0,g1,g2,g3,cs,g4,g5,g6⟩:=hA.ob o _ h1
  cases h with
  |os _ _ _ _ b _ hn hv hb=>
   have hb:=hb g1;subst hb;have p7:=z6 h3;refine .sl sz xs none _ 0 _ cs.toList (qjx g4) h3 ?_ (fun i x y e7 hy=>?_) nofun h4
   ·have hc:cs.toList.length=cs.size:=rfl
    rw [Nat.zero_add,hc,← g5,List.length_append];omega
   ·rw [Nat.zero_add] at hy
    have hi:=lt_of_getElem? e7;refine qne hA ?_ (g6 i x y (by rw [List.getElem?_append_left hi];exact e7) (by simpa using hy));obtain⟨a,ha,hxa⟩:=List.mem_flatMap.1 (List.mem_of_getElem? e7);exact hx a ha x hxa
section
variable {E : Env}
theorem q6o (hok:q3l E) {f:FuncId} {sz:Nat} {T T1:TypeId} {xs ls args:List AV} {cs vs:List SV} {x:Value} {r:SV} (hr:∀ ρ,r.ev ρ = .v x) (nj:∀ ρ,SV.evs ρ cs=ls) (hvs:∀ ρ,SV.evs ρ vs=args) (hx:∀ x∈xs,qfs x) (hl:∀ x∈ls,Pure x) (ha:∀ x∈args,Pure x)
  (h:∀ S,qn E f (.pp (.sl sz xs none::ls)::args) S fun r S'=>r = .v x∧S'=S) :
  j8 E f (.bx 0 0::vs) 2 (hpF [(0,some (.cells T (.tp 1::cs))),(1,some (.own sz T1 xs))]) ⟨r,ju [(0,some (SR.cells T (.tp 1::cs))),(1,some (.own sz T1 xs))],[(0,some (.cells T (.tp 1::cs))),(1,some (.own sz T1 xs))]++kz [(0,some (SR.cells T (.tp 1::cs))),(1,some (.own sz T1 xs))],2⟩:=fun ρ S hS=>by
 simp only [vf] at hS;obtain⟨o,ver,hb,hSo,bf⟩:=hS.ok 0 _ rfl;have u7:OwnS S sz T1 xs (ρ 1):=hS.ok 1 _ rfl;have e:SV.evs ρ (.bx 0 0::vs) = .bx o ver 0::args:=by simp only [SV.evs,SV.ev,hb,bxAt,hvs]
 have e1:SV.evs ρ (.tp 1::cs) = ρ 1::ls:=by simp only [SV.evs,SV.ev,qog u7,nj]
 rw [e1] at hSo;rw [e];refine⟨fun B0 w0 G vals w hL hA hR=>?_⟩;obtain⟨g0,g1,g2,g3,c,g4,g5,g6⟩:=hA.ob o _ hSo
 have lk:RelL (qhd w) (.pp (.sl sz xs none::ls)::args) vals:=by
  refine⟨hR.1,fun i a y ha' hy=>?_⟩
  cases i with
  |zero=>
   simp only [List.getElem?_cons_zero,Option.some.injEq] at ha';subst ha';have h0:=hR.2 0 _ y rfl hy
   cases h0 with
   |bx _ _ _ b hn hv cx=>
    have cx:=cx g1;subst cx;refine .pp _ _ 0 c.toList (qjx g4) (by have hc:c.toList.length=c.size:=rfl;rw [Nat.zero_add,hc,← g5];exact Nat.le_refl _) fun j a z hj hz=>?_;rw [Nat.zero_add] at hz;have hz:c[j]? = some z:=by simpa using hz
    cases j with
    |zero=>
     simp only [List.getElem?_cons_zero,Option.some.injEq] at hj;subst hj
     exact za3 hA hx u7 (g6 0 _ z rfl hz)
    |succ j=>
     rw [List.getElem?_cons_succ] at hj
     exact qne hA (hl a (List.mem_of_getElem? hj)) (g6 (j+1) a z (by rw [List.getElem?_cons_succ];exact hj) hz)
  |succ i=>
   rw [List.getElem?_cons_succ] at ha';exact qne hA (ha a (List.mem_of_getElem? ha')) (hR.2 (i+1) a y (by rw [List.getElem?_cons_succ];exact ha') hy)
 refine ((h []).run w.heap.size w (qhd w) vals w (hok B0 w0 w hL hA.below hA.hB) (q4v w) lk).mono ?_;rintro en w' ⟨v,G',r',st',rfl,hG,hA',g9,rfl,rfl⟩
 cases g9
 refine⟨_,G,_,S,rfl,.refl G,hA.fresh hA'.below,.v x,ρ,(hr ρ).symm,fun _ _=>rfl,?_,Nat.le_refl _,fun _ _ _=>rfl,fun k q hk o ho=>?_⟩
 ·simp only [vf,qcf]
  exact hS
 ·simp only [vf,qcf] at hk ⊢
  exact .inr ⟨k,q,hk,ho⟩
end
end Go.Av
namespace Go.Pl
open Go Go.Proofs Go.Av Go.Proofs.YtihlchbgjdkmpaaGreatDoor
theorem q7c {l:qq} {id:Int} (h:atF l id<0):qb4 l id=[]:=by
 by_cases h1:1≤id
 ·rcases qyi l id with⟨_,g⟩ | ⟨i,e,g,_⟩
  ·exact g h1
  ·omega
 ·unfold qb4
  have:(stzF l.ents).find? (fun s=>decide (s.1=id))=none:=by
   rw [List.find?_eq_none];intro s hs;unfold stzF at hs;obtain⟨e,he,rfl⟩:=List.mem_map.1 hs;have:=(List.mem_filter.1 he).2;simp only [decide_eq_true_eq] at this ⊢;omega
  rw [this];rfl
theorem qw1:∀ (b:List ql) (n:Nat) (l:qq),LB n l→n+b.length<900000→LB (n+b.length) (kg b l)
 | [],n,l,h,_=>h
 |x::r,n,l,h,hs=>by
  have:=qw1 r (n+1) (oneF l x).2.2 (qof h (by simp at hs;omega) x) (by simp at hs;omega);rw [show n+1+r.length=n+(x::r).length by simp;omega] at this;exact this
theorem qw2:∀ (b:List ql) (l:qq),LI l→LI (kg b l)
 | [],l,h=>h
 |x::r,l,h=>qw2 r _ (q2x h x)
theorem q0e:∀ (b:List ql) (l:qq),qco b l→∀ (i:Nat) (x:ql),b[i]? = some x→(oneF (kg (b.take i) l) x).2.1 = .no
 | [],l,_,i,x,h=>by simp at h
 |y::r,l,h,0,x,hx=>by
  simp only [List.getElem?_cons_zero,Option.some.injEq] at hx;subst hx
  exact h.1
 |y::r,l,h,i+1,x,hx=>q0e r _ h.2 i x (by simpa using hx)
theorem q3n {b:List ql} {l:qq} {i:Nat} {x:ql} (h:b[i]? = some x):kg (b.take (i+1)) l=(oneF (kg (b.take i) l) x).2.2:=by
 rw [List.take_add_one,h];exact qq3 _ _ _
theorem qu5 {x:ql} (h:gErr x = .no):x.kind=1∨x.kind=2∨x.kind=3:=by
 unfold gErr at h;split at h
 ·rename_i h2;exact .inr (.inl h2)
 ·split at h
  ·rename_i h1;rcases h1 with h1|h1
   ·exact .inl h1
   ·exact .inr (.inr h1)
  ·simp at h
theorem zel {l:qq} {x:ql} (hn:GN l) (h:(oneF l x).2.1 = .no) (hk:gErr x = .no):(x.kind=3→0<(oneF l x).1)∧(x.kind≠3→(oneF l x).1=0):=by
 have dk:=hn.nx;rcases qje hn h with⟨h1,h2,_⟩ | ⟨h1,h2,_⟩ | ⟨h1,h2,h3,_⟩
 ·exact⟨fun h=>by omega,fun _=>h2⟩
 ·exact⟨fun h=>by omega,fun _=>h2⟩
 ·refine⟨fun _=>by omega,fun h=>?_⟩
  rcases qu5 hk with g|g|g
  ·exact absurd g h1
  ·exact absurd g h2
  ·exact absurd g h
@[reducible] def q5o (x : ql) (s : qit) : AV := .ag [Iv s.kind, Iv s.id, kj x.fields, kj s.was, Iv s.ahead]
def qa0 (b:List ql) (l:qq):List AV:=(List.range b.length).map fun i=>match b[i]? with
 |some x=>q5o x (yn (kg (b.take i) l) x)
 |none=>zj
theorem qvx (b:List ql) (l:qq):(qa0 b l).length=b.length:=by simp [qa0]
theorem qny {b:List ql} {l:qq} {i:Nat} {x:ql} (h:b[i]? = some x):(qa0 b l)[i]? = some (q5o x (yn (kg (b.take i) l) x)):=by
 have hi:=(List.getElem?_eq_some_iff.1 h).1;unfold qa0;rw [List.getElem?_map,List.getElem?_range hi];simp only [Option.map_some,h]
theorem q5p {b:List ql} {l:qq} {i:Nat} {x:ql} (h:b[i]? = some x):(qa0 b l).take (i+1)=(qa0 b l).take i++[q5o x (yn (kg (b.take i) l) x)]:=by
 rw [List.take_add_one,qny h];rfl
theorem q1s (b:List ql) (l:qq):∀ x∈qa0 b l,qfs x:=fun y hy=>by
 unfold qa0 at hy;obtain⟨i,_,rfl⟩:=List.mem_map.1 hy;split
 ·intro z hz
  simp only [AV.cells,List.mem_cons,List.not_mem_nil,or_false] at hz;rcases hz with rfl|rfl|rfl|rfl|rfl
  ·exact qt _
  ·exact qt _
  ·exact y4 _
  ·exact y4 _
  ·exact qt _
 ·intro z hz
  simp only [AV.cells,zj,List.mem_cons,List.not_mem_nil,or_false] at hz;subst hz;exact qt _
theorem qt3 {b:List ql} {l:qq} {i:Nat} {x:ql} (h:b[i]? = some x):((wq b l).take (i+1)).reverse=yn (kg (b.take i) l) x::((wq b l).take i).reverse:=by
 rw [List.take_add_one,qs0 b l i x h];simp
end Go.Pl
namespace Go.Proofs.YtihlchbgjdkmpaaGreatDoor
open Go Go.Av Go.RowKit Go.Proofs Go.Pl
theorem zaj (l:qq) (id:Int) (st:List AObj) (hl:l.ents.length<1000000) (hI:LI l):qn E 123 [kf l,Iv id] st fun r st'=>r=Iv (qb9 l id)∧st'=st:=by
 refine zx [.a (kf l),.i id] (qt _) Tryz.func123 rfl rfl (fun _=>rfl) rfl fun S0=>?_;have hz:=fun st=>qe2 l st hl fun e he=>by have:=(hI e he).2;omega
 have hp:=fun st=>za8 l id st hl;rcases q0m l id with⟨h1,h2⟩ | ⟨i,s,h1,h2,h3⟩
 ·rw [h2]
  generalize qii l id=p at hp h1;apply qd [];repeat' (first|apply And.intro|(intro h;try exact cDd)|exact⟨Tryz.call14⟩|refine cpe hz ?_|exact⟨Tryz.call58⟩|refine cpe hp ?_|exact cSd|apply qb []|refine exr ?_|refine qi ?_)
 ·rw [h3]
  rw [h1] at hp;have hx:((stzF l.ents).map stzA)[i]? = some (stzA s):=by rw [List.getElem?_map,h2];rfl
  have rx:=lt_of_getElem? h2;have gb:=qqp l.ents;apply qd [];repeat' (first|apply And.intro|(intro h;try exact cDd)|exact⟨Tryz.call14⟩|refine cpe hz ?_|exact⟨Tryz.call58⟩|refine cpe hp ?_|(refine Exists.intro (i) ⟨by omega,_,hx,?_⟩)|exact cSd|apply qb []|refine exr ?_|refine qi ?_)
theorem q05 (l:qq) (id:Int) (hl:l.ents.length<1000000) (hI:LI l):j8 E 123 [.bx 0 0,.i id] 2 (hpF (lstH 1 l)) ⟨.i (qb9 l id),ju (lstH 1 l),lstH 1 l++kz (lstH 1 l),2⟩:=
 q6o E_ok (x:=.int .i64 (qb9 l id)) (xs:=l.ents.map entA) (ls:=[Iv l.next,Iv l.many]) (args:=[Iv id]) (cs:=[.i l.next,.i l.many]) (vs:=[.i id]) (fun _=>rfl) (fun _=>rfl) (fun _=>rfl)
  (fun x hx=>by obtain⟨e,_,rfl⟩:=List.mem_map.1 hx;exact qr2 e)
  (fun x hx=>by simp only [List.mem_cons,List.not_mem_nil,or_false] at hx;rcases hx with rfl|rfl <;> exact qt _)
  (fun x hx=>by simp only [List.mem_cons,List.not_mem_nil,or_false] at hx;subst hx;exact qt _)
  fun S=>zaj l id S hl hI
theorem q7r (l:qq) (id:Int) (hl:l.ents.length<1000000) (hI:LI l):∃ v:AV,((v=zj∧qb4 l id=[])∨v=kj (qb4 l id))∧j8 E 124 [.bx 0 0,.i id] 2 (hpF (lstH 1 l)) ⟨.tu [.a v,.b (decide (0≤atF l id))],ju (lstH 1 l),lstH 1 l++kz (lstH 1 l),2⟩:=by
 have h1:=qn6 l id hl;by_cases h:atF l id<0
 ·refine⟨zj,.inl ⟨rfl,q7c h⟩,?_⟩
  rw [decide_eq_false (by omega:¬ 0≤atF l id)];refine wh [.bx 0 0,.i id] (lstH 1 l) 2 (.tu [.a zj,.b false]) (lstH 1 l) 2 Tryz.func124 rfl rfl rfl rfl fun S F ρ=>?_;generalize atF l id=n at *;apply qd [];repeat' (first|apply And.intro|(intro h;try exact cDd)|exact⟨Tryz.call174⟩|(refine zy h1 ?_)|exact cSd|apply qb []|refine exr ?_|refine qi ?_)
 ·obtain⟨i,e,g1,g2,g3⟩:∃ (i:Nat) (e:EntV),atF l id=(i:Int)∧l.ents[i]? = some e∧qb4 l id=e.x.fields:=by
   rcases qyi l id with⟨g,_⟩|g
   ·exact absurd g h
   ·exact g
  refine⟨kj (qb4 l id),.inr rfl,?_⟩;rw [g3,decide_eq_true (by omega:0≤atF l id)];refine wh [.bx 0 0,.i id] (lstH 1 l) 2 (.tu [.a (kj e.x.fields),.b true]) (lstH 1 l) 2 Tryz.func124 rfl rfl rfl rfl fun S F ρ=>?_;rw [g1] at h1;have hm:(l.ents.map entA)[i]? = some (entA e):=by rw [List.getElem?_map,g2];rfl
  have rx:=lt_of_getElem? hm;have nc:=fun st=>qew e.x.fields st (by have:=(hI e (List.mem_of_getElem? g2)).2;omega);apply qd [];repeat' (first|apply And.intro|(intro h;try exact cDd)|exact⟨Tryz.call174⟩|(refine zy h1 ?_)|(refine qlk (i:=i) rfl rfl rfl rfl rfl rfl (by omega) ?_)|(refine qqh (i:=i) (j:=2) rfl rfl rfl rfl hm rfl rfl ?_)|exact⟨Tryz.call40⟩|refine cpe nc ?_|exact cSd|apply qb []|refine exr ?_|refine qi ?_)
end Go.Proofs.YtihlchbgjdkmpaaGreatDoor
namespace Go.Av
open Go Go.RowKit
section
variable {α : Type} [DecidableEq α] {kd : TypeDesc} {key : α → Value}
theorem qvi (hs:∀ a b,Instr.sameNow kd (key a) (key b)=some (decide (b=a))) (s : α):∀ (L:List (α×Int)) (i:Nat) (r:Option (Nat×Value)),qbf kd (key s) (L.map (kvM key)) i=some r→r.isSome=L.any fun q=>decide (q.1=s)
 | [],i,r,h=>by
  simp only [List.map_nil,qbf,Option.some.injEq] at h;subst h
  rfl
 |q::L,i,r,h=>by
  rw [List.map_cons,qbf] at h;have e:Instr.sameNow kd (key s) (kvM key q).1=some (decide (q.1=s)):=hs s q.1;rw [e] at h;rw [List.any_cons];by_cases hq:q.1=s
  ·rw [decide_eq_true hq] at h ⊢
   simp only [Option.some.injEq] at h;subst h;rfl
  ·rw [decide_eq_false hq] at h ⊢
   rw [Bool.false_or];exact qvi hs s L (i+1) r h
variable {E : Env} {N : Nat} {ops : Array Oper} {nx : Nat} {sl : List (Nat × SV)} {H : Nat → Option SR} {k : Ef → Prop} {d : Option Tmp} {T : TypeId} {p : String} {af : Array Edge}
theorem qvh {t kt vt:TypeId} {x y:Operand} {b:Nat} {L:List (α×Int)} {v:SV} {s : α} (hs:∀ a b,Instr.sameNow kd (key a) (key b)=some (decide (b=a))) (hx:sval N sl x=some (.tp b)) (hH:H b=some (.obj (mapP (L.map (kvM key))))) (hy:sval N sl y=some v) (hv:∀ ρ,v.ev ρ = .v (key s))
  (hu:E.P.underlying t=some (.map kt vt)) (hk:E.P.underlying kt=some kd) (cz:mkey kd (key s)=true) (hz:(E.P.info? vt).bind (fun i=>i.zero)=some (.int .i64 0))
  (h:k ⟨.tu [.i (getM s L),.b (L.any fun q=>decide (q.1=s))],[b],[],nx⟩):∃ e,Loc E N ops ⟨d,.lookup t x y true,T,p,af,none⟩ nx sl H e∧k e:=by
 obtain⟨r,h1,h2,_⟩:=qtq hs s 0 L [];rw [← qvi hs s L 0 r h1] at h;exact zbe hx hH hy hv hu hk cz h1 hz h2 h
end
end Go.Av
namespace Go.Proofs.YtihlchbgjdkmpaaGreatDoor
open Go Go.Av Go.RowKit Go.Proofs Go.Pl
theorem q7l {text:qa} (b:jp) (st:List AObj) (hB:BkB b) (hT:vu text b):qn E 47 [qaj b] st fun r st'=>r=yw (qdn b)∧st'=st:=by
 refine zx [.a (qaj b)] (qdb _) Tryz.func47 rfl rfl (fun _=>rfl) rfl fun S0=>?_;have d6:=fun st=>q7k b.gen st;have o7:(b.ends.map fun x=>Iv x).length=b.ends.length:=by simp
 have mb:b.ends.length≤14000:=by
  have:=hB.len;rw [hT.ends,qh0];omega
 have hs:(qdn b).map (fun x=>Iv x)=[Iv ((vp b.gen).length+b.base.length:Nat)]++b.ends.map fun x=>Iv x:=rfl;have hhl:=qyk b.gen;have gf:=hB.base;generalize (vp b.gen).length=m at *;apply qd [10];repeat' (first|apply And.intro|(intro h;try exact cDd)|exact⟨Tryz.call52⟩|refine cpe d6 ?_|exact cSd|apply qb [10]|refine exr ?_|refine qi ?_)
 all_goals first|rfl|exact .inl (by simp [SV.evs];omega)|(refine congrArg (fun z=>AV.sl 1 z none) ?_;rw [hs];simp [SV.evs,SV.ev];done)
theorem zaq (n:Nat) (l:qq) (b:List ql) (st:List AObj) (hB:LB n l) (hn:n+40<900000) (hI:LI l) (hE:∀ x∈b,EdB x) (hl:b.length≤40) (hg:∀ x∈b,gErr x = .no) (hN:GN l) (ht:qco b l):qn E 74 [kf l,zo b] st fun r st'=>r = .sl 5 (qa0 b l) none∧st'=st:=by
 refine qlt [.a (kf l),.a (zo b)] (qar (q1s b l)) Tryz.func74 rfl rfl (fun _=>rfl) rfl fun S0=>?_;have ng:=q2r l (by have:=hB.len;omega);have o7:(b.map vw).length=b.length:=by simp
 have hxl:=qvx b l;apply qd [];repeat' (first|apply And.intro|(intro h;try exact cDd)|exact⟨Tryz.call119⟩|(refine zy ng ?_)|exact cSd|apply qb []|refine exr ?_|refine qi ?_)
 refine w7 (X:=Nat×qq) (fun (k,q)=>⟨[(5,.bx 0 0),(6,.tp 2),(14,.a (zo b)),(15,.i b.length),(16,.i k)],[(0,some (.cells 144 [.tp 1,.i q.next,.i q.many])),(1,some (.own 4 100 (q.ents.map entA))),(2,some (.tip 5 156 ((qa0 b l).take k)))],3⟩)
  (fun (k,q)=>k≤b.length∧q=kg (b.take k) l) (fun (k,q)=>b.length - k) (0,l) ⟨by omega,rfl⟩ ?_ ?_
 ·skip
  repeat' (first|apply And.intro|(intro h;try exact cDd)|exact cSd|apply qb []|refine exr ?_|refine qi ?_)
  all_goals first|rfl|(simp;done)
 ·rintro⟨k,q⟩ ⟨hk,hq⟩
  by_cases i6:k<b.length
  ·have hx:b[k]? = some b[k]:=List.getElem?_eq_getElem i6
   have o8:(b.map vw)[k]? = some (vw b[k]):=by rw [List.getElem?_map,hx];rfl
   have hxE:=hE b[k] (List.getElem_mem i6);have hgx:=hg b[k] (List.getElem_mem i6);have hxf:=(qho hgx).1;have hlk:(b.take k).length=k:=by simp;omega
   have hqB:=qw1 (b.take k) n l hB (by omega);rw [hlk,← hq] at hqB;have hqI:=qw2 (b.take k) l hI;have hqN:=qpp (b.take k) l hN;have pt:=q0e b l ht k _ hx;have d8:=q5p (l:=l) hx;have haf:=q3n (l:=l) hx;rw [← hq] at hqI hqN pt d8 haf;have gb:((qa0 b l).take k).length=k:=by rw [List.length_take,hxl];omega
   clear hq;generalize b[k]=x at hx o8 hxE hgx hxf pt d8 haf;have hq1:=hqB.len;have hah:=q05 q x.id (by omega) hqI;have dj:=q7r q x.id (by omega) hqI;have sg:=q64 (n+k) q x hqB hxE.keys (by omega);obtain⟨m1,m2⟩:=zel hqN pt hgx;unfold yn at d8;obtain⟨v,hv,dj⟩:=dj;generalize qb4 q x.id=fl at *;generalize qb9 q x.id=ah at *;generalize hoo:oneF q x=o at *;obtain⟨id,e,q'⟩:=o;dsimp only at *;subst pt;rcases hv with⟨rfl,rfl⟩|rfl
   all_goals
    by_cases h0:0<id
    all_goals
     first|rw [if_pos h0] at d8|rw [if_neg h0] at d8
     apply qd [];repeat' (first|apply And.intro|(intro h;try exact cDd)|(refine Exists.intro (k) ⟨by omega,_,o8,?_⟩)|exact⟨Tryz.call123⟩|(refine Exists.intro _ ⟨qn8 hah ⟨rfl,rfl,trivial⟩,?_⟩)|exact⟨Tryz.call124⟩|(refine zy dj ?_)|exact⟨Tryz.call120⟩|(refine zy sg ?_)|(refine Exists.intro (k+1,q') ⟨⟨by omega,haf.symm⟩,by simp only;omega,?_⟩)|exact cSd|apply qb []|refine exr ?_|refine qi ?_)
     all_goals first|rfl|exact d8.symm|(simp;omega)
  ·have i6:k=b.length:=by omega
   subst i6;have rt:(qa0 b l).take b.length=qa0 b l:=List.take_of_length_le (by omega);apply qd [];repeat' (first|apply And.intro|(intro h;try exact cDd)|exact cSd|apply qb []|refine exr ?_|refine qi ?_)
   all_goals first|rfl|(simp [rt];done)
def qks (xs:List AV):Nat→Option ((SV×SV)×Nat)
 | 0=>none
 |k+1=>match xs[k]? with
  |some x=>some ((.i k,.a x),k)
  |none=>none
theorem qrm {xs:List AV} {k j:Nat} {v:SV×SV} (h:qks xs k=some (v,j)):∃ x,k=j+1∧xs[j]? = some x∧v=(.i j,.a x):=by
 cases k with
 |zero=>simp [qks] at h
 |succ k=>
  rw [qks] at h;split at h
  ·rename_i x hx
   simp only [Option.some.injEq,Prod.mk.injEq] at h;obtain⟨rfl,rfl⟩:=h;exact⟨x,rfl,hx,rfl⟩
  ·simp at h
theorem q30 {xs:List AV} {k:Nat} (h:qks xs k=none) (hk:k≤xs.length):k=0:=by
 cases k with
 |zero=>rfl
 |succ k=>
  rw [qks,List.getElem?_eq_getElem (by omega)] at h;simp at h
theorem q90 (xs:List AV) (hl:xs.length<1000000) (hp:∀ x∈xs,∃ a b c d e,x = .ag [a,b,c,d,e]):ItC2 122 154 [.sl 5 xs none] (evY2 (qks xs)) xs.length:=⟨fun o kb n m I D S hm hn h0 hI d8 hY=>by
 refine qr Tryz.func122 rfl (Nat.le_of_ble_eq_true rfl) ?_;have hb:=hI _ S h0;repeat' (first|apply qm|apply q9|apply qe|apply qf|apply qh|(apply jl;(iterate 4 exact rfl))|(apply qa6;exact rfl;exact rfl;exact zn (by omega) (by omega))|(apply yx;exact rfl;exact rfl;exact hb;exact rfl;exact rfl))
 refine v4 (fun (k:Nat) s=>∃ S',I k S'∧k≤xs.length∧StA [(0,.yd o),(1,.bx kb 0 0),(3,Iv ((k:Int) - 1))] (S'++[]) [] s) (fun k=>k) xs.length ⟨_,by rw [List.append_nil];exact h0,by omega,qkl (vk ⟨rfl,rfl,rfl,trivial⟩)⟩ ?_;rintro k _ ⟨S',hi,hk,t,rfl⟩;rw [List.append_nil];have cx:=hI _ _ hi
 cases k with
 |zero=>
  repeat' (first|apply qm|apply qe|apply qf|apply qj|(apply qy;(iterate 3 exact rfl))|(apply qc;exact rfl;apply xh;exact cAo)|apply vc)
  exact qo rfl (xl rfl) (.inl ⟨0,rfl,hi⟩)
 |succ k=>
  have hx:xs[k]? = some xs[k]:=List.getElem?_eq_getElem (by omega);obtain⟨a,b,c,d,e,hxe⟩:=hp xs[k] (List.getElem_mem (by omega));rw [hxe] at hx;rw [show (((k+1:Nat):Int) - 1)=(k:Int) by omega];repeat' (first|apply qm|apply q9|apply qe|apply qf|apply qj|(apply qy;(iterate 3 exact rfl))|(apply qc;exact rfl;apply wg;exact cAo)|(apply js;(iterate 3 exact rfl))|apply qx|(apply j9;exact rfl;exact cx;exact rfl;exact rfl)|(apply kh (n:=k);(iterate 5 exact rfl);exact hx))
  apply qbi (o:=o) rfl;refine xk.mono (hY (k+1) (Iv k,.ag [a,b,c,d,e]) k _ [] hi (fun j y hy=>by simp at hy) (by simp [evY2,qks,hx,SV.ev])) ?_;rintro b S2 ⟨_,h2,h3⟩
  show AOps _ _ _ _ _ _ _
  cases b
  ·skip
   repeat' (first|apply qf|(apply jb;exact rfl)|(apply qc;exact rfl;apply qkx;exact cRa)|apply qu)
   exact qo rfl (xl rfl) (.inr (h3 rfl))
  ·skip
   repeat' (first|apply qe|apply qf|apply qj|apply qh|(apply jb;exact rfl)|(apply qc;exact rfl;apply qn9;exact cRa)|(apply qa6;exact rfl;exact rfl;exact zn (by omega) (by omega))|apply qx)
   exact⟨k,⟨_,h2 rfl,by omega,qkl (vk ⟨rfl,rfl,congrArg (fun n:Int=>Iv n) (by omega),trivial⟩)⟩,by omega⟩⟩
theorem zda (xs:List AV):j8 E 73 [.a (.sl 5 xs none)] 0 (hpF []) ⟨.fn (.func 122) [] [.bx 0 0],ju [],[(0,some (.cells 154 [.a (.sl 5 xs none)]))]++kz [],1⟩:=by
 refine wh [.a (.sl 5 xs none)] [] 0 (.fn (.func 122) [] [.bx 0 0]) [(0,some (.cells 154 [.a (.sl 5 xs none)]))] 1 Tryz.func73 rfl rfl rfl rfl fun S F ρ=>?_;apply qd [1];repeat' (first|apply And.intro|(intro h;try exact cDd)|exact cSd|apply qb [1]|refine exr ?_|refine qi ?_)
@[reducible] def nmH (L : List (Int × Int)) : List (Nat × Option SR) := [(1, some (.obj (mapP (L.map (kvM keyI))))), (2, some (.cells 149 [.tp 1]))]
theorem zan (id:Int) (L:List (Int×Int)):j8 E 72 [.i id,.bx 2 0] 3 (hpF (nmH L)) ⟨.i (wb L id),ju (nmH L),nmH L++kz (nmH L),3⟩:=by
 refine wh [.i id,.bx 2 0] (nmH L) 3 (.i (wb L id)) (nmH L) 3 Tryz.func72 rfl rfl rfl rfl fun S F ρ=>?_;unfold wb
 cases hb:(L.any fun q=>decide (q.1=id)) with
 |true=>
  rw [if_pos rfl];apply qd [];repeat' (first|apply And.intro|(intro h;try exact cDd)|(refine qvh qz2 rfl rfl rfl (fun _=>rfl) rfl rfl rfl rfl ?_)|exact absurd (h.symm.trans hb) (by decide)|exact cSd|apply qb []|refine exr ?_|refine qi ?_)
  all_goals first|assumption|rfl|(simp_all;done)
 |false=>
  rw [if_neg (by decide)];apply qd [];repeat' (first|apply And.intro|(intro h;try exact cDd)|(refine qvh qz2 rfl rfl rfl (fun _=>rfl) rfl rfl rfl rfl ?_)|exact absurd (h.symm.trans hb) (by decide)|exact cSd|apply qb []|refine exr ?_|refine qi ?_)
  all_goals first|assumption|rfl|(simp_all;done)
set_option maxHeartbeats 4000000 in
theorem zds (l:qq) (b:List ql) (st:List AObj) (hB:LB 860000 l) (hM:LM l) (hI:LI l) (hN:GN l) (hG:GL l) (hE:∀ x∈b,EdB x) (hl:b.length<1000000):qn E 42 [kf l,zo b] st fun r st'=>r = .tu [zo (if (doF l b).1 = .no then vv l b else []),errA (doF l b).1]∧st'=st:=by
 refine zx [.a (kf l),.a (zo b)] (kc (qds _) (jx _)) Tryz.func42 rfl rfl (fun _=>rfl) rfl fun S0=>?_;have nz:=fun st=>q4i 860000 l b st hB (by omega) hE hl;unfold doA at nz
 cases tb:(doF l b).1 with
 |num m=>
  rw [tb] at nz;rw [if_neg (by simp)];apply qd []
  repeat' (first|apply And.intro|(intro h;try exact cDd)|exact⟨Tryz.call70⟩|refine cpe nz ?_|exact cSd|apply qb []|refine exr ?_|refine qi ?_)
 |at' a m=>
  rw [tb] at nz;rw [if_neg (by simp)];apply qd []
  repeat' (first|apply And.intro|(intro h;try exact cDd)|exact⟨Tryz.call70⟩|refine cpe nz ?_|exact cSd|apply qb []|refine exr ?_|refine qi ?_)
 |no=>
  rw [tb] at nz;rw [if_pos rfl];obtain⟨he,ht,ha⟩:=qqu tb;obtain⟨p6,hb40,hg⟩:=qc8 he;have gp:=fun st=>zaq 860000 l b st hB (by omega) hI hE hb40 hg hN ht;have hdB:=qx1 hB (by omega) b;have s7:vv l b=xg (wq b l).reverse [] (doF l b).2.1.next:=rfl;have hxl:=qvx b l
  have pd:=q90 (qa0 b l) (by omega) fun x hx=>by
   obtain⟨i,hi⟩:=List.getElem?_of_mem hx;have rx:=(List.getElem?_eq_some_iff.1 hi).1;rw [hxl] at rx;rw [qny (List.getElem?_eq_getElem rx)] at hi;simp only [Option.some.injEq] at hi;exact⟨_,_,_,_,_,hi.symm⟩
  rw [s7];generalize (doF l b).2.2=ids at nz;generalize (doF l b).2.1=d at *;have td:=fun st=>zd9 d st;have hd0:=hdB.nx0;have hd1:=hdB.nx1;clear s7;apply qd [];repeat' (first|apply And.intro|(intro h;try exact cDd)|exact⟨Tryz.call70⟩|refine cpe nz ?_|exact⟨Tryz.call71⟩|refine cpe td ?_|exact⟨Tryz.call74⟩|refine cpe gp ?_|(refine zeg ?_)|exact⟨Tryz.call73⟩|(refine zy (zda (qa0 b l)) ?_)|exact cSd|apply qb []|refine exr ?_|refine qi ?_)
  refine qz4 (X:=List ql×List (Int×Int)×Int) pd Tryz.call122 (fun i v j h=>by obtain⟨x,_,_,rfl⟩:=qrm h;rfl) 5 6 [.a (.sl 5 (qa0 b l) none)] (fun _=>rfl) [0,1,2,3,4,5]
   (fun (out,L,n)=>⟨[(9,.bx 0 0),(10,.bx 2 0),(11,.bx 3 0),(12,.bx 4 0),(32,.fn (.func 122) [] [.bx 5 0])],
    [(0,some (.cells 3 [.i n])),(1,some (.obj (mapP (L.map (kvM keyI))))),(2,some (.cells 149 [.tp 1])),(3,some (.cells 126 [.fn (.func 72) [] [.bx 2 0]])),(4,some (.cells 42 [.tp 6])),(5,some (.cells 154 [.a (.sl 5 (qa0 b l) none)])),(6,some (.tip 3 81 (out.map vw)))],7⟩) _
   (fun k (out,L,n)=>k≤b.length∧out.length+k=b.length∧0≤n∧n≤900000+(out.length:Int)∧out++xg ((wq b l).take k).reverse L n=xg (wq b l).reverse [] d.next) (fun _ _=>False) ([],[],d.next) ⟨by omega,by simp [hxl],by omega,by simp;omega,by rw [List.take_of_length_le (by rw [qgn];omega)];rfl⟩ ?_ (fun h=>h) (fun _=>rfl) rfl (fun _=>rfl) (fun _=>rfl) rfl ?_ ?_ (fun _ _ h=>h.elim)
  ·skip
   repeat' (first|apply And.intro|(intro h;try exact cDd)|exact cSd|apply qb []|refine exr ?_|refine qi ?_)
   all_goals first|rfl|assumption|(simp;done)
  ·rintro k ⟨out,L,n⟩ v j ⟨p1,p2,p3,p4,p5⟩ hv
   obtain⟨y,rfl,hy,rfl⟩:=qrm hv;have hx:b[j]? = some b[j]:=List.getElem?_eq_getElem (by omega);have hgx:=hg b[j] (List.getElem_mem (by omega));have hyx:=qny (l:=l) hx;rw [hy] at hyx;simp only [Option.some.injEq] at hyx;subst hyx;have hrs:=qt3 (l:=l) hx;rw [hrs,xg] at p5;have hkind:(yn (kg (b.take j) l) b[j]).kind=1∨(yn (kg (b.take j) l) b[j]).kind=2∨(yn (kg (b.take j) l) b[j]).kind=3:=qu5 hgx;generalize yn (kg (b.take j) l) b[j]=s at *;generalize b[j]=x at *;have sf:(out.map vw).length=out.length:=by simp
   have tx:∀ (a:ql),(out++[a]).map vw=out.map vw++[vw a]:=fun a=>by simp
   have hnm:=fun id=>zan id L;rcases hkind with hk|hk|hk
   ·rw [if_pos hk] at p5
    refine RA.mk fun S F ρ rd=>?_;apply qd [];repeat' (first|apply And.intro|(intro h;try exact cDd)|(refine RB.mk fun S rd=>?_;apply qd [])|exact⟨Tryz.call72⟩|(refine Exists.intro _ ⟨qn8 (hnm s.id) ⟨rfl,rfl,trivial⟩,?_⟩)|(refine Exists.intro (out++[⟨1,wb L s.id,s.was⟩],L,n) ⟨⟨by omega,by simp;omega,p3,by simp;omega,by rw [← p5];simp⟩,?_⟩)|exact cSd|apply qb []|refine exr ?_|refine qi ?_)
    all_goals first|rfl|assumption|omega|exact (tx ⟨1,wb L s.id,s.was⟩).symm|(simp [SV.evs];omega)
   ·rw [if_neg (by omega),if_pos hk] at p5
    refine RA.mk fun S F ρ rd=>?_;apply qd [];repeat' (first|apply And.intro|(intro h;try exact cDd)|(refine RB.mk fun S rd=>?_;apply qd [])|exact⟨Tryz.call72⟩|(refine Exists.intro _ ⟨qn8 (hnm s.ahead) ⟨rfl,rfl,trivial⟩,?_⟩)|(refine zba qz2 rfl rfl rfl (fun _=>rfl) rfl (fun _=>rfl) rfl rfl rfl ?_)|(refine Exists.intro (out++[⟨3,wb L s.ahead,s.was⟩],setM s.id n L,n+1) ⟨⟨by omega,by simp;omega,by omega,by simp;omega,by rw [← p5];simp⟩,?_⟩)|exact cSd|apply qb []|refine exr ?_|refine qi ?_)
    all_goals first|rfl|assumption|omega|exact (tx ⟨3,wb L s.ahead,s.was⟩).symm|(simp [SV.evs];omega)
   ·rw [if_neg (by omega),if_neg (by omega)] at p5
    refine RA.mk fun S F ρ rd=>?_;apply qd [];repeat' (first|apply And.intro|(intro h;try exact cDd)|(refine RB.mk fun S rd=>?_;apply qd [])|exact⟨Tryz.call72⟩|(refine Exists.intro _ ⟨qn8 (hnm s.id) ⟨rfl,rfl,trivial⟩,?_⟩)|(refine Exists.intro (out++[⟨2,wb L s.id,[]⟩],L,n) ⟨⟨by omega,by simp;omega,p3,by simp;omega,by rw [← p5];simp⟩,?_⟩)|exact cSd|apply qb []|refine exr ?_|refine qi ?_)
    all_goals first|rfl|assumption|omega|exact (tx ⟨2,wb L s.id,[]⟩).symm|(simp [SV.evs];omega)
  ·rintro i ⟨out,L,n⟩ hy ⟨p1,p2,p3,p4,p5⟩
   have:=q30 hy (by omega);subst this;have p5:out++[]=_:=p5;rw [List.append_nil] at p5;rw [← p5];repeat' (first|apply And.intro|(intro h;try exact cDd)|exact cSd|apply qb []|refine exr ?_|refine qi ?_)
   all_goals first|rfl|(simp;done)
end Go.Proofs.YtihlchbgjdkmpaaGreatDoor
