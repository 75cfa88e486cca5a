/- Contracts and plain facts that the closing text leans on (part 9). No condition of their own beyond those that each states. -/
import Derived.Test.YtmoklbacdkmkaaaGreatDoorK8
set_option maxRecDepth 100000
set_option linter.unusedVariables false
set_option linter.unusedSimpArgs false
namespace Go.Proofs.YtmoklbacdkmkaaaGreatDoor
open Go Go.Av Go.RowKit Go.Proofs Go.Pl
theorem qnn:∀ (b:List qu) (k:Nat) (l:q7) (ids:List Int),(wh k b l ids).1≠.no→(wh k b l ids).1.code≠0
 | [],k,l,ids,h=>by simp [wh] at h
 |x::r,k,l,ids,h=>by
  unfold wh at h ⊢
  split
  ·rename_i he
   rw [if_pos he] at h
   exact qnn r _ _ _ h
  ·rename_i he
   exact qmg he
theorem q7p {l:q7} {b:List qu} (h:(doF l b).1≠.no):(doF l b).1.code≠0:=by
 unfold doF at h ⊢
 split
 ·rename_i he
  rw [if_pos he] at h
  exact qnn _ _ _ _ h
 ·rename_i he
  exact fun h'=>he ((qdy b).1 h')
def lR (b:j5) (n:Nat):q7:=if jz b.base = .no then (jm b.base (b.batches.take n)).2.l else⟨[],0,0⟩
def gR (b:j5) (n:Nat):List (List Int):=if (jm b.base (b.batches.take n)).1 = .no then (jm b.base (b.batches.take n)).2.given else []
theorem qtw {base:qb}:∀ (bs:List (List qu)) (k:Nat) (r:RunV),k+bs.length≤14000→LB (300000+40 * k) r.l→LM r.l→LI r.l→LB 860000 (kz bs r).2.l∧LM (kz bs r).2.l∧LI (kz bs r).2.l
 | [],k,r,hk,h1,h2,h3=>⟨qd2 h1 (by simp at hk;omega) (by omega),h2,h3⟩
 |b::q,k,r,hk,h1,h2,h3=>by
  simp only [List.length_cons] at hk
  unfold kz
  split
  ·exact qtw (base:=base) q (k+1) _ (by omega) (qd2 (qv3 h1 (by omega) b) (by omega) (by omega)) (q4e h2 h1 (by omega) b) (zcx h3 b)
  ·exact⟨qd2 h1 (by omega) (by omega),h2,h3⟩
theorem qxl (base:qb) (bs:List (List qu)) (h:bs.length≤14000):LB 860000 (jm base bs).2.l∧LM (jm base bs).2.l∧LI (jm base bs).2.l:=by
 unfold jm
 split
 ·exact qtw (base:=base) bs 0 _ (by omega) (qxb base) (q49 _) (zdj base)
 ·exact⟨⟨by omega,by simp [ofF],by simp [ofF],by simp [ofF],by simp [ofF],by simp [ofF]⟩,by simp [ofF,LM,cntF],by simp [ofF,LI]⟩
theorem qlh (b:j5) (n:Nat) (st:List AObj) (hB:BkB b) (hn:n≤b.batches.length):qm E 34 [wz b,Iv n] st fun r st'=>r = .tu [kl (lR b n),qho (gR b n),Iv (jm b.base (b.batches.take n)).1.pos,Iv (jm b.base (b.batches.take n)).1.code]∧st'=st:=by
 refine ze [.a (wz b),.i n] (qku (yw _) (qi6 _) (qq _) (qq _)) Tryz.func34 rfl rfl (fun _=>rfl) rfl fun S0=>?_
 have hof:=fun st=>q5z b.base st hB.base
 have hlb:=qxb b.base
 have hlm:=q49 (itsE b.base)
 have hbl:=hB.len
 have hbs:(b.batches.take n).length=n:=by simp;omega
 have hbb:∀ x∈b.batches.take n,BB x∧x.length≤5000:=fun x hx=>hB.bat x (List.mem_of_mem_take hx)
 have hix:∀ k,k<n→∃ x,(b.batches.take n)[k]? = some x∧(b.batches.map zj)[k]? = some (zj x)∧(b.batches.take n).drop k=x::(b.batches.take n).drop (k+1)∧BB x:=fun k hk=>by
  have h1:(b.batches.take n)[k]? = some (b.batches.take n)[k]:=List.getElem?_eq_getElem (by omega)
  refine⟨_,h1,?_,by rw [List.drop_eq_getElem_cons (by omega)],(hbb _ (List.getElem_mem _)).1⟩
  rw [List.getElem?_map]
  have h2:(b.batches.take n)[k]? = b.batches[k]?:=by rw [List.getElem?_take,if_pos hk]
  rw [← h2,h1]
  try rfl
 unfold lR gR jm ofR at *
 generalize b.batches.take n=bs at hbs hix
 generalize itsE b.base=its at hlb hof hlm
 by_cases he:jz b.base = .no
 ·rw [he] at hof
  simp only [if_pos he]
  rw [if_pos rfl] at hof
  apply qd []
  repeat' (first|apply And.intro|(intro h;try exact cDd)|exact⟨Tryz.call82⟩|refine cpe hof ?_|exact cSd|apply qa []|refine exr ?_|refine qh ?_)
  refine zq (X:=Nat×RunV) (fun (k,r)=>⟨[(1,.i n),(2,.a (.pp [Iv b.gen,Sv b.base,vw b.batches,ku b.ends,Sv b.tail])),(4,.bx 0 0),(8,.bx 1 0),(11,.tp 2),(12,.i k)],[(0,some (.cells 35 [.a zh,.i 0])),(1,some (.cells 35 [.a (qbo r.l.ents),.i r.l.next])),(2,some (.tip 1 24 (r.given.map ku)))],3⟩)
   (fun (k,r)=>k≤n∧LB (300000+40 * k) r.l∧LM r.l∧r.given.length=k∧kz (bs.drop k) r=kz bs ⟨ofF its,[],[]⟩) (fun (k,r)=>n - k) (0,⟨ofF its,[],[]⟩) ⟨by omega,hlb,hlm,rfl,rfl⟩ ?_ ?_
  ·skip
   repeat' (first|apply And.intro|(intro h;try exact cDd)|exact cSd|apply qa []|refine exr ?_|refine qh ?_)
   all_goals first|rfl|(simp;done)
  ·rintro⟨k,r⟩ ⟨hk,hq,hqm,hgl,hrun⟩
   by_cases hkn:k<n
   ·obtain⟨x,hx,hxm,hdr,hxb⟩:=hix k hkn
    rw [hdr,kz] at hrun
    have hdo:=fun st=>q5x (300000+40 * k) r.l x st hq hqm (by omega) hxb.2 hxb.1
    have hgm:(r.given.map ku).length=k:=by simp [hgl]
    unfold doR at hdo
    by_cases hok:(doF r.l x).1 = .no
    ·rw [if_pos hok] at hrun
     simp only [if_pos hok] at hdo
     have hgl2:(yt r x).given.length=k+1:=by simp [yt,hgl]
     have hlb3:LB (300000+40 * (k+1)) (yt r x).l:=qd2 (qv3 hq (by omega) x) (by omega) (by omega)
     have hlm3:LM (yt r x).l:=q4e hqm hq (by omega) x
     apply qd []
     repeat' (first|apply And.intro|(intro h;try exact cDd)|(refine Exists.intro (k) ⟨by omega,_,hxm,?_⟩)|exact⟨Tryz.call83⟩|refine cpe hdo ?_|(refine Exists.intro (k+1,yt r x) ⟨⟨by omega,hlb3,hlm3,hgl2,hrun⟩,by simp only;omega,?_⟩)|exact cSd|apply qa []|refine exr ?_|refine qh ?_)
     all_goals first|(simp [yt];done)|(simp [yt];omega)
    ·rw [if_neg hok] at hrun
     rw [← hrun]
     simp only [if_neg hok] at hdo
     have hcd:=q7p hok
     generalize (doF r.l x).1.code=c at hdo hcd
     simp only [reduceCtorEq,if_false,hgl]
     apply qd []
     repeat' (first|apply And.intro|(intro h;try exact cDd)|(refine Exists.intro (k) ⟨by omega,_,hxm,?_⟩)|exact⟨Tryz.call83⟩|refine cpe hdo ?_|exact cSd|apply qa []|refine exr ?_|refine qh ?_)
   ·have hkn:k=n:=by omega
    subst hkn
    rw [List.drop_of_length_le (by omega),kz] at hrun
    rw [← hrun,if_pos rfl]
    apply qd []
    repeat' (first|apply And.intro|(intro h;try exact cDd)|exact cSd|apply qa []|refine exr ?_|refine qh ?_)
 ·simp only [if_neg he] at hof ⊢
  obtain⟨its',p,m,hpa,hp,hm,hm0⟩:=qt0 b.base hB.base
  have hz:m≠0:=fun h=>he (hm0.1 h)
  rw [← hp,← hm] at hof ⊢
  apply qd []
  repeat' (first|apply And.intro|(intro h;try exact cDd)|exact⟨Tryz.call82⟩|refine cpe hof ?_|exact cSd|apply qa []|refine exr ?_|refine qh ?_)
theorem q8w {text:qb} (h:jz text≠.no):(jz text).code≠0:=by
 cases hpe:jz text with
 |no=>exact absurd hpe h
 |num n=>have:=qq5 hpe;simp [ErrV.code];omega
 |at' a n=>have:=qtq hpe;simpa [ErrV.code] using this
theorem qlg:∀ (bs:List (List qu)) (r:RunV),(kz bs r).1≠.no→(kz bs r).1.code≠0
 | [],r,h=>by simp [kz] at h
 |b::q,r,h=>by
  unfold kz at h ⊢
  split
  ·rename_i he
   rw [if_pos he] at h
   exact qlg q _ h
  ·exact (by decide:(10:Int)≠0)
theorem qq6 {base:qb} {bs:List (List qu)} (h:(jm base bs).1≠.no):(jm base bs).1.code≠0:=by
 unfold jm at h ⊢
 split
 ·rename_i he
  rw [if_pos he] at h
  exact qlg _ _ h
 ·rename_i he
  exact q8w he
def qjx:qb:=[65,58,32,49,10]
def qh9:List qu:=[⟨2,1,[]⟩]
theorem q3k (st:List AObj):qm E 11 [] st fun r st'=>r=Bv true∧st'=st:=by
 have hap:=fun st=>zcn qjx qh9 st (by decide) (by simp [qh9];exact⟨by simp [KeyB],by simp,by simp,by simp⟩) (by decide)
 have h1:(Go.Pl.appF qjx qh9).1 = .no:=by decide +kernel
 have h2:(qh1 (Go.Pl.appF qjx qh9).2).1 = .no:=by decide +kernel
 have h3:(qh1 (Go.Pl.appF qjx qh9).2).2.2.next=2:=by decide +kernel
 have h4:(qh1 (Go.Pl.appF qjx qh9).2).2.2.many=0:=by decide +kernel
 have h5:(Go.Pl.appF qjx qh9).2.length<1000000:=by decide +kernel
 rw [h1] at hap
 generalize (Go.Pl.appF qjx qh9).2=s at hap h2 h3 h4 h5
 have hrt:=fun st=>zb0 s st h5
 unfold qrf at hrt
 simp only [h2] at hrt
 have hn:=fun st=>q0g (qh1 s).2.2 st
 have hm:=fun st=>zdd (qh1 s).2.2 st
 rw [h3] at hn
 rw [h4] at hm
 refine ze [] (qq _) Tryz.func11 rfl rfl (fun _=>rfl) rfl fun S0=>?_
 apply qd []
 repeat' (first|apply And.intro|(intro h;try exact cDd)|exact⟨Tryz.call28⟩|refine cpe hap ?_|exact⟨Tryz.call12⟩|refine cpe hrt ?_|exact⟨Tryz.call50⟩|refine cpe hm ?_|exact⟨Tryz.call18⟩|refine cpe hn ?_|exact cSd|apply qa []|refine exr ?_|refine qh ?_)
theorem q5c {e:ErrV} (h:e≠.no→e.code≠0):okE e:=by
 cases e with
 |no=>trivial
 |num n=>exact h (by simp)
 |at' a n=>exact h (by simp)
end Go.Proofs.YtmoklbacdkmkaaaGreatDoor
namespace Go.Pl
open Go Go.Proofs
def qav:List EntV→Option (EntV×List EntV)
 | []=>none
 |e::r=>if 0<e.id then some (e,r) else qav r
def stzF (es:List EntV):List (Int×List Fld):=(es.filter fun e=>decide (0<e.id)).map fun e=>(e.id,e.x.fields)
theorem qqv:∀ {r:List EntV},qav r=none→stzF r=[]
 | [],_=>rfl
 |e::r,h=>by
  unfold qav at h
  split at h
  ·simp at h
  ·rename_i h0
   have:=qqv h
   simpa [stzF,h0] using this
theorem qqw:∀ {r:List EntV} {e:EntV} {q:List EntV},qav r=some (e,q)→0<e.id∧e∈r∧stzF r=(e.id,e.x.fields)::stzF q∧q.length<r.length∧∀ y∈q,y∈r
 |x::r,e,q,h=>by
  unfold qav at h
  split at h
  ·rename_i h0
   simp only [Option.some.injEq,Prod.mk.injEq] at h
   obtain⟨rfl,rfl⟩:=h
   exact⟨h0,by simp,by simp [stzF,h0],by simp,fun y hy=>by simp [hy]⟩
  ·rename_i h0
   obtain⟨h1,h2,h3,h4,h5⟩:=qqw h
   exact⟨h1,by simp [h2],by simpa [stzF,h0] using h3,by simp;omega,fun y hy=>by simp [h5 y hy]⟩
end Go.Pl
namespace Go.Proofs.YtmoklbacdkmkaaaGreatDoor
open Go Go.Av Go.RowKit Go.Proofs Go.Pl
theorem zdo {m:Nat} {T:TypeId} {S':List AObj} {cs0:List AV} (h:S'.length=m∨∃ cs,S'[m]? = some (.cells 0 T cs)):∃ cs,(S'++[AObj.cells 0 T cs0])[m]? = some (.cells 0 T cs):=by
 rcases h with rfl | ⟨cs,h⟩
 ·exact⟨cs0,by simp⟩
 ·exact⟨cs,by rw [List.getElem?_append_left (lt_of_getElem? h)];exact h⟩
theorem zdp {m:Nat} {T:TypeId} {S':List AObj} (h:S'.length=m∨∃ cs,S'[m]? = some (.cells 0 T cs)):m≤S'.length:=by
 rcases h with rfl | ⟨cs,h⟩
 ·omega
 ·exact Nat.le_of_lt (lt_of_getElem? h)
theorem qsm {L:List (Tmp×AV)} {st:List AObj} {df:List Nat} {s:AS} (h:StA L st df s):StA L (st++[]) df s:=by
 rw [List.append_nil]
 exact h
theorem zad (l:q7) (o kb n m:Nat) (I:List EntV→List AObj→Prop) (D:List AObj→Prop) (S:List AObj) (hm:S.length=m) (hn:n≤m) (hl:l.ents.length<1000000) (h0:I l.ents S)
  (hI:∀ r S',I r S'→S'[kb]? = some (.cells 0 27 [vm l]))
  (hst:∀ r S' S'',Ext n S' S''→I r S'→I r S'')
  (hY:∀ r e q S' cs,I r S'→S'[m]? = some (.cells 0 139 cs)→qav r=some (e,q)→xx E o [entA e] S' fun b S''=>S''[m]? = some (.cells 0 139 cs)∧(b=true→I q S'')∧(b=false→D S'')) :
  qm E 145 [.yd o,.bx kb 0 0] S fun r S'=>(∃ i,qav i=none∧I i S')∨D S':=by
 refine qp Tryz.func145 rfl (Nat.le_of_ble_eq_true rfl) ?_
 have hb:=hI _ S h0
 have hmi:(l.ents.map entA).length=l.ents.length:=by simp
 repeat' (first|apply ql|apply qv|apply qe|apply qf|apply qi|(apply qc;exact rfl;apply cd_f;exact cRa)|(apply zr;(iterate 4 exact rfl))|(apply xo;(iterate 4 exact rfl))|(apply zo;(iterate 3 exact rfl))|(apply v6;exact rfl;exact rfl)|(apply qaa;(iterate 3 exact rfl))|apply qs|(apply y9;exact rfl;exact rfl;exact hb;exact rfl;exact rfl))
 refine kh (fun (k:Nat) s=>∃ S' r,I r S'∧(S'.length=m∨∃ cs,S'[m]? = some (.cells 0 139 cs))∧k≤l.ents.length∧qav r=qav (l.ents.drop k)∧StA [(0,.yd o),(10,.sl 4 (l.ents.map entA) none),(11,Iv l.ents.length),(12,Iv k)] (S'++[]) [] s) (fun k=>l.ents.length - k) 0
  ⟨_,_,hst _ _ _ (qg5 (by omega)) h0,.inl (by simpa using hm),by omega,by simp,qsm (jw ⟨rfl,rfl,congrArg (fun n:Nat=>Iv (n:Int)) hmi,rfl,trivial⟩)⟩ ?_
 rintro k _ ⟨S',r,hi,hown,hk,hnx,t,rfl⟩
 have hml:=zdp hown
 by_cases hkn:k<l.ents.length
 ·have hx:l.ents[k]? = some l.ents[k]:=List.getElem?_eq_getElem hkn
  have hxm:(l.ents.map entA)[k]? = some (entA l.ents[k]):=by rw [List.getElem?_map,hx];rfl
  rw [List.drop_eq_getElem_cons hkn,qav] at hnx
  generalize l.ents[k]=e at hx hxm hnx
  obtain⟨cs,hcs⟩:=zdo (cs0:=(entA e).cells) hown
  by_cases he:0<e.id
  ·rw [if_pos he] at hnx
   repeat' (first|apply ql|apply qv|apply qe|apply qf|apply qi|(apply qr;(iterate 3 exact rfl))|(apply qx;(iterate 4 exact rfl))|(apply qbs;exact cAo)|(apply qc;exact rfl;apply km;exact cAo)|(apply ja;exact rfl;exact rfl)|(apply zg;(iterate 3 exact rfl))|(apply zo;(iterate 3 exact rfl))|(apply jc;(iterate 5 exact rfl))|(apply zp;(iterate 11 exact rfl))|apply qs|(apply zw (n:=k);(iterate 5 exact rfl);exact hxm))
   apply qct (o:=o) rfl
   refine xx.mono (hY r e _ _ cs (hst _ _ _ (qg5 (by omega)) hi) hcs hnx) ?_
   rintro b S2 ⟨h1,h2,h3⟩
   show AOps _ _ _ _ _ _ _
   cases b
   ·skip
    repeat' (first|apply qf|(apply z6;exact rfl)|(apply qx;(iterate 4 exact rfl))|(apply qbs;exact cAo)|(apply qo;exact rfl;apply y6;exact cAo)|(apply qc;exact rfl;apply qii;exact cRa)|apply qt)
    exact qn rfl (yc rfl) (.inr (h3 rfl))
   ·skip
    repeat' (first|apply qe|apply qf|apply qi|(apply z6;exact rfl)|(apply qx;(iterate 4 exact rfl))|(apply qbs;exact cAo)|(apply qo;exact rfl;apply y6;exact cAo)|(apply qc;exact rfl;apply qmt;exact cRa)|(apply zk;exact rfl;exact rfl;exact zb (by omega) (by omega))|apply qs)
    exact⟨k+1,⟨_,_,h2 rfl,.inr ⟨cs,h1⟩,by omega,rfl,qsm (jw ⟨rfl,rfl,rfl,rfl,trivial⟩)⟩,by omega⟩
  ·rw [if_neg he] at hnx
   repeat' (first|apply ql|apply qv|apply qe|apply qf|apply qi|(apply qr;(iterate 3 exact rfl))|(apply qx;(iterate 4 exact rfl))|(apply qd0;exact cAo)|(apply qo;exact rfl;apply qay;exact cAo)|(apply qc;exact rfl;apply km;exact cAo)|(apply qc;exact rfl;apply cd_f;exact cRa)|(apply zk;exact rfl;exact rfl;exact zb (by omega) (by omega))|(apply ja;exact rfl;exact rfl)|(apply zg;(iterate 3 exact rfl))|(apply zo;(iterate 3 exact rfl))|(apply jc;(iterate 5 exact rfl))|(apply zp;(iterate 11 exact rfl))|apply qs|(apply zw (n:=k);(iterate 5 exact rfl);exact hxm))
   exact⟨k+1,⟨_,_,hst _ _ _ (qg5 (by omega)) hi,.inr ⟨cs,hcs⟩,by omega,hnx,qsm (jw ⟨rfl,rfl,rfl,rfl,trivial⟩)⟩,by omega⟩
 ·rw [List.drop_of_length_le (by omega),qav] at hnx
  repeat' (first|apply ql|apply qe|apply qf|(apply qr;(iterate 3 exact rfl))|(apply qc;exact rfl;apply vo;exact cAo)|apply jh)
  exact qn rfl (yc rfl) (.inl ⟨r,hnx,hst _ _ _ (qg5 (by omega)) hi⟩)
def allY (r:List EntV):Option (SV×List EntV):=(qav r).map fun x=>(.a (entA x.1),x.2)
theorem zch (l:q7) (hl:l.ents.length<1000000):ItC 145 27 [vm l] (evY allY) l.ents:=⟨fun o kb n m I D S hm hn h0 hI hst hY=>by
 refine (zad l o kb n m I D S hm hn hl h0 hI hst fun r e q S' cs hi hown hx=>?_).mono ?_
 ·refine (hY r (entA e) q S' [.cells 0 139 cs] hi (fun j y hy=>?_) (by simp [evY,allY,hx,SV.ev])).mono fun b S'' ⟨h1,h2,h3⟩=>⟨by have:=h1 0 _ rfl;simpa using this,h2,h3⟩
  match j with
  | 0=>
   simp only [List.getElem?_cons_zero,Option.some.injEq] at hy
   subst hy
   exact⟨hown,yg rfl⟩
  |j+1=>simp at hy
 ·rintro r S' (⟨i,h1,h2⟩|h)
  ·exact .inl ⟨i,by simp [evY,allY,h1],h2⟩
  ·exact .inr h⟩
theorem zc7 (l:q7):vk E 79 [.a (vm l)] 0 (hpF []) ⟨.fn (.func 145) [] [.bx 0 0],vj [],[(0,some (.cells 27 [.a (vm l)]))]++vt [],1⟩:=by
 refine xc [.a (vm l)] [] 0 (.fn (.func 145) [] [.bx 0 0]) [(0,some (.cells 27 [.a (vm l)]))] 1 Tryz.func79 rfl rfl rfl rfl fun S F ρ=>?_
 apply qd [1]
 repeat' (first|apply And.intro|(intro h;try exact cDd)|exact cSd|apply qa [1]|refine exr ?_|refine qh ?_)
@[reducible] def stzA (x : Int × List Fld) : AV := .ag [Iv x.1, zz x.2]
@[reducible] def qg1 (s : List (Int × List Fld)) : AV := .sl 2 (s.map stzA) none
theorem qrk (s:List (Int×List Fld)):Pure (qg1 s):=qaf fun x hx=>by
 obtain⟨f,_,rfl⟩:=List.mem_map.1 hx
 intro y hy
 simp only [AV.cells,List.mem_cons,List.not_mem_nil,or_false] at hy
 rcases hy with rfl|rfl
 ·exact qq _
 ·exact qap _
theorem qx5 (es:List EntV):(stzF es).length≤es.length:=by
 unfold stzF
 rw [List.length_map]
 exact List.length_filter_le _ _
theorem qxz {N:Nat} {B:Bs} {C:Conf} {Q:Exit→Conf→Prop} {X:Type} {f:Operand} {p:Tmp} {asg body:Code} (l:q7) (kb n0:Nat) (ks:List Nat) (I:X→Conf) (sl0:List (Nat×SV)) (P:List EntV→X→Prop) (D:Code→X→Prop) (x0:X) (h0:P l.ents x0)
  (he:EntA B.n0 C (I x0)) (hz:¬ B.dz) (hl:l.ents.length<1000000) (hsl:∀ x,(I x).sl=sl0)
  (hf:sval N sl0 f=some (.fn (.func 145) [] [.bx kb 0]))
  (hkb:∀ x,lkS (I x).hp kb=some (some (.cells 27 [.a (vm l)])))
  (hr:∀ x,qc4 n0 ks (I x).sl (I x).hp (I x).nx=true) (h0r:(ksIn n0 ks (I x0).hp && Nat.ble B.n0 n0)=true)
  (hb:∀ r e q x,P r x→qav r=some (e,q)→RA E N n0 asg (fun F ρ C1=>RB E N F ρ n0 body (rndQ n0 (P q) D I) C1) ⟨(p,.a (entA e))::(I x).sl,(I x).hp,(I x).nx⟩)
  (hn:∀ r x,qav r=none→P r x→Q .normal (I x)) (hd:∀ c x,D c x→q1n Q c (I x)):Sm E none N B (.rangeFunc f #[p] asg body) Q C:=by
 refine qn5 (zch l hl) Tryz.call145 (fun i v j h=>?_) kb n0 [.a (vm l)] (fun _=>rfl) ks I sl0 P D x0 h0 he hz hsl hf hkb hr h0r (fun i x v j hp h=>?_) (fun i x h hp=>?_) hd
 ·unfold allY at h
  cases hx:qav i with
  |none=>rw [hx] at h;simp at h
  |some y=>
   rw [hx] at h
   simp only [Option.map_some,Option.some.injEq,Prod.mk.injEq] at h
   rw [← h.1]
   try rfl
 ·unfold allY at h
  cases hx:qav i with
  |none=>rw [hx] at h;simp at h
  |some y=>
   rw [hx] at h
   simp only [Option.map_some,Option.some.injEq,Prod.mk.injEq] at h
   obtain⟨h1,h2⟩:=h
   rw [← h1,← h2]
   exact hb i y.1 y.2 x hp hx
 ·unfold allY at h
  cases hx:qav i with
  |none=>exact hn i x hx hp
  |some y=>rw [hx] at h;simp at h
theorem q2e (l:q7) (st:List AObj) (hl:l.ents.length<1000000) (hI:∀ e∈l.ents,e.x.fields.length<1000000):qm E 31 [vm l] st fun r st'=>r=qg1 (stzF l.ents)∧st'=st:=by
 refine ze [.a (vm l)] (qrk _) Tryz.func31 rfl rfl (fun _=>rfl) rfl fun S0=>?_
 apply qd []
 repeat' (first|apply And.intro|(intro h;try exact cDd)|exact⟨Tryz.call79⟩|(refine jj (zc7 l) ?_)|exact cSd|apply qa []|refine exr ?_|refine qh ?_)
 refine qxz (X:=List (Int×List Fld)) l 1 2 [0,1] (fun out=>⟨[(3,.bx 0 0),(6,.fn (.func 145) [] [.bx 1 0])],[(0,some (.cells 63 [.tp 2])),(1,some (.cells 27 [.a (vm l)])),(2,some (.tip 2 149 (out.map stzA)))],3⟩) _
  (fun r out=>out++stzF r=stzF l.ents∧out.length+r.length≤l.ents.length∧∀ y∈r,y∈l.ents) (fun _ _=>False) [] ⟨by simp,by simp,fun _ h=>h⟩ ?_ id hl (fun _=>rfl) rfl (fun _=>rfl) (fun _=>rfl) rfl ?_ ?_ (fun _ _ h=>h.elim)
 ·skip
  repeat' (first|apply And.intro|(intro h;try exact cDd)|exact cSd|apply qa []|refine exr ?_|refine qh ?_)
 ·rintro r e q out ⟨h1,h2,h3⟩ hx
  obtain⟨g1,g2,g3,g4,g5⟩:=qqw hx
  rw [g3] at h1
  have hcl:=fun st=>qgn e.x.fields st (hI e (h3 e g2))
  have hml:(out.map stzA).length=out.length:=by simp
  refine RA.mk fun S F ρ rd=>?_
  apply qd []
  repeat' (first|apply And.intro|(intro h;try exact cDd)|(refine RB.mk fun S rd=>?_;apply qd [])|exact⟨Tryz.call80⟩|refine cpe hcl ?_|(refine Exists.intro (out++[(e.id,e.x.fields)]) ⟨⟨by rw [← h1];simp,by simp;omega,fun y hy=>h3 y (g5 y hy)⟩,?_⟩)|exact cSd|apply qa []|refine exr ?_|refine qh ?_)
  all_goals first|(simp [SV.evs,SV.ev];done)|(simp [SV.evs];omega)
 ·rintro r out hx ⟨h1,h2,h3⟩
  rw [qqv hx,List.append_nil] at h1
  rw [← h1]
  repeat' (first|apply And.intro|(intro h;try exact cDd)|exact cSd|apply qa []|refine exr ?_|refine qh ?_)
theorem q8p (s:List (Int×List Fld)) (st:List AObj) (hl:s.length<1000000) (hf:∀ x∈s,x.2.length<1000000):qm E 30 [qg1 s,qg1 s] st fun r st'=>r=Bv true∧st'=st:=by
 refine ze [.a (qg1 s),.a (qg1 s)] (qq _) Tryz.func30 rfl rfl (fun _=>rfl) rfl fun S0=>?_
 have hmi:(s.map stzA).length=s.length:=by simp
 apply qd []
 repeat' (first|apply And.intro|(intro h;try exact cDd)|exact cSd|apply qa []|refine exr ?_|refine qh ?_)
 refine zq (X:=Nat) (fun k=>⟨[(0,.a (qg1 s)),(1,.a (qg1 s)),(12,.i s.length),(13,.i k)],[],0⟩) (fun k=>k≤s.length) (fun k=>s.length - k) 0 (by omega) ?_ ?_
 ·skip
  repeat' (first|apply And.intro|(intro h;try exact cDd)|exact cSd|apply qa []|refine exr ?_|refine qh ?_)
  all_goals (simp;done)
 ·rintro k hk
  by_cases hkn:k<s.length
  ·have hx:s[k]? = some s[k]:=List.getElem?_eq_getElem hkn
   have hxm:(s.map stzA)[k]? = some (stzA s[k]):=by rw [List.getElem?_map,hx];rfl
   have hxf:=hf s[k] (List.getElem_mem hkn)
   generalize s[k]=x at hx hxm hxf
   have hfe:=fun st=>qtc x.2 x.2 st (by omega)
   rw [decide_eq_true rfl] at hfe
   apply qd []
   repeat' (first|apply And.intro|(intro h;try exact cDd)|(refine Exists.intro (k) ⟨by omega,_,hxm,?_⟩)|exact⟨Tryz.call78⟩|refine cpe hfe ?_|(refine Exists.intro (k+1) ⟨by omega,by omega,?_⟩)|exact cSd|apply qa []|refine exr ?_|refine qh ?_)
  ·have hkn:k=s.length:=by omega
   subst hkn
   apply qd []
   repeat' (first|apply And.intro|(intro h;try exact cDd)|exact cSd|apply qa []|refine exr ?_|refine qh ?_)
theorem zca {es:List EntV} {n:Nat} (h:∀ e∈es,e.x.fields.length<n):∀ x∈stzF es,x.2.length<n:=fun x hx=>by
 obtain⟨e,he,rfl⟩:=List.mem_map.1 hx
 exact h e (List.mem_filter.1 he).1
end Go.Proofs.YtmoklbacdkmkaaaGreatDoor
namespace Go.Pl
open Go Go.Proofs
theorem qx4 (a b:List EntV):stzF (a++b)=stzF a++stzF b:=by simp [stzF]
theorem qx6 (e:EntV):stzF [e]=if 0<e.id then [(e.id,e.x.fields)] else []:=by
 by_cases h:0<e.id <;> simp [stzF,h]
end Go.Pl
namespace Go.Proofs.YtmoklbacdkmkaaaGreatDoor
open Go Go.Av Go.RowKit Go.Proofs Go.Pl
theorem qsi (l:q7) (st:List AObj) (hl:l.ents.length<1000000):qm E 36 [kl l] st fun r st'=>r=qg1 (stzF l.ents)∧st'=st:=by
 refine ze [.a (kl l)] (qrk _) Tryz.func36 rfl rfl (fun _=>rfl) rfl fun S0=>?_
 obtain⟨es,nx,mn⟩:=l
 dsimp only at hl ⊢
 have hmi:(es.map entA).length=es.length:=by simp
 apply qd []
 repeat' (first|apply And.intro|(intro h;try exact cDd)|exact cSd|apply qa []|refine exr ?_|refine qh ?_)
 refine zq (X:=Nat) (fun k=>⟨[(1,.a (.pp [qbo es,Iv nx])),(3,.tp 0),(4,.i k)],[(0,some (.tip 2 149 ((stzF (es.take k)).map stzA)))],1⟩) (fun k=>k≤es.length) (fun k=>es.length - k) 0 (by omega) ?_ ?_
 ·skip
  repeat' (first|apply And.intro|(intro h;try exact cDd)|exact cSd|apply qa []|refine exr ?_|refine qh ?_)
  all_goals first|rfl|(simp [stzF];done)|(simp [stzF];rfl)
 ·rintro k hk
  by_cases hkn:k<es.length
  ·have hx:es[k]? = some es[k]:=List.getElem?_eq_getElem hkn
   have hxm:(es.map entA)[k]? = some (entA es[k]):=by rw [List.getElem?_map,hx];rfl
   have htk:es.take (k+1)=es.take k++[es[k]]:=by rw [List.take_add_one,hx];rfl
   have hsl:=qx5 (es.take k)
   have hsl2:(es.take k).length≤k:=by simp;omega
   generalize es[k]=e at hx hxm htk
   by_cases h0:0<e.id
   ·have e1:stzF (es.take (k+1))=stzF (es.take k)++[(e.id,e.x.fields)]:=by rw [htk,qx4,qx6,if_pos h0]
    apply qd []
    repeat' (first|apply And.intro|(intro h;try exact cDd)|(refine Exists.intro (k) ⟨by omega,_,hxm,?_⟩)|(refine Exists.intro (k+1) ⟨by omega,by omega,?_⟩)|exact cSd|apply qa []|refine exr ?_|refine qh ?_)
    all_goals first|(rw [e1];simp;done)|(simp;omega)
   ·have e1:stzF (es.take (k+1))=stzF (es.take k):=by rw [htk,qx4,qx6,if_neg h0,List.append_nil]
    apply qd []
    repeat' (first|apply And.intro|(intro h;try exact cDd)|(refine Exists.intro (k) ⟨by omega,_,hxm,?_⟩)|(refine Exists.intro (k+1) ⟨by omega,by omega,?_⟩)|exact cSd|apply qa []|refine exr ?_|refine qh ?_)
    all_goals first|(rw [e1];done)|(simp;omega)
  ·have hkn:k=es.length:=by omega
   subst hkn
   rw [List.take_length]
   apply qd []
   repeat' (first|apply And.intro|(intro h;try exact cDd)|exact cSd|apply qa []|refine exr ?_|refine qh ?_)
theorem q39 (fs:List Fld) (st:List AObj) (hl:fs.length<1000000):qm E 146 [zz fs] st fun r st'=>r=zz fs∧st'=st:=by
 refine ze [.a (zz fs)] (qap _) Tryz.func146 rfl rfl (fun _=>rfl) rfl fun S0=>?_
 have hml:(fs.map fldA).length=fs.length:=by simp
 apply qd [3]
 repeat' (first|apply And.intro|(intro h;try exact cDd)|exact cSd|apply qa [3]|refine exr ?_|refine qh ?_)
theorem zdn (b:List qu) (st:List AObj) (hl:b.length<1000000) (hf:∀ x∈b,x.fields.length<1000000):qm E 81 [zj b] st fun r st'=>r=zj b∧st'=st:=by
 refine ze [.a (zj b)] (qfg _) Tryz.func81 rfl rfl (fun _=>rfl) rfl fun S0=>?_
 have hml:(b.map j6).length=b.length:=by simp
 apply qd [6]
 repeat' (first|apply And.intro|(intro h;try exact cDd)|exact cSd|apply qa [6]|refine exr ?_|refine qh ?_)
 refine zq (X:=Nat) (fun k=>⟨[(3,.tp 0),(7,.a (zj b)),(8,.i (b.map j6).length),(9,.i k)],[(0,some (.tip 3 97 ((b.take k).map j6)))],1⟩) (fun k=>k≤b.length) (fun k=>b.length - k) 0 (by omega) ?_ ?_
 ·skip
  repeat' (first|apply And.intro|(intro h;try exact cDd)|exact cSd|apply qa []|refine exr ?_|refine qh ?_)
  all_goals (simp;done)
 ·rintro k hk
  by_cases hc:k<b.length
  ·obtain⟨y,hy⟩:∃ y,b[k]? = some y:=⟨_,List.getElem?_eq_getElem hc⟩
   have hget:=qil hy
   have hcp:=fun st=>q39 y.fields st (hf y (List.mem_of_getElem? hy))
   have htk:b.take (k+1)=b.take k++[y]:=by
    obtain⟨_,rfl⟩:=List.getElem?_eq_some_iff.1 hy
    rw [List.take_append_getElem]
   have htl:((b.take k).map j6).length=k:=by simp;omega
   apply qd [5,22]
   repeat' (first|apply And.intro|(intro h;try exact cDd)|(refine Exists.intro (k) ⟨by omega,_,hget,?_⟩)|exact⟨Tryz.call146⟩|refine cpe hcp ?_|(refine Exists.intro (k+1) ⟨by omega,by omega,?_⟩)|exact cSd|apply qa [5,22]|refine exr ?_|refine qh ?_)
   all_goals first|(rw [htk];simp [SV.evs,SV.ev,j6];done)|(simp [SV.evs];omega)
  ·rw [List.take_of_length_le (by omega)]
   apply qd []
   repeat' (first|apply And.intro|(intro h;try exact cDd)|exact cSd|apply qa []|refine exr ?_|refine qh ?_)
theorem qyx (b:List qu) (st:List AObj) (hl:b.length<1000000) (hf:∀ x∈b,x.fields.length<1000000):qm E 39 [zj b,zj b] st fun r st'=>r=Bv true∧st'=st:=by
 refine ze [.a (zj b),.a (zj b)] (qq _) Tryz.func39 rfl rfl (fun _=>rfl) rfl fun S0=>?_
 have hmi:(b.map j6).length=b.length:=by simp
 apply qd []
 repeat' (first|apply And.intro|(intro h;try exact cDd)|exact cSd|apply qa []|refine exr ?_|refine qh ?_)
 refine zq (X:=Nat) (fun k=>⟨[(0,.a (zj b)),(1,.a (zj b)),(12,.i (b.map j6).length),(13,.i k)],[],0⟩) (fun k=>k≤b.length) (fun k=>b.length - k) 0 (by omega) ?_ ?_
 ·skip
  repeat' (first|apply And.intro|(intro h;try exact cDd)|exact cSd|apply qa []|refine exr ?_|refine qh ?_)
 ·rintro k hk
  by_cases hkn:k<b.length
  ·obtain⟨y,hy⟩:∃ y,b[k]? = some y:=⟨_,List.getElem?_eq_getElem hkn⟩
   have hget:=qil hy
   have hxf:=hf y (List.mem_of_getElem? hy)
   have hfe:=fun st=>qtc y.fields y.fields st (by omega)
   rw [decide_eq_true rfl] at hfe
   apply qd []
   repeat' (first|apply And.intro|(intro h;try exact cDd)|(refine Exists.intro (k) ⟨by omega,_,hget,?_⟩)|exact⟨Tryz.call78⟩|refine cpe hfe ?_|(refine Exists.intro (k+1) ⟨by omega,by omega,?_⟩)|exact cSd|apply qa []|refine exr ?_|refine qh ?_)
  ·apply qd []
   repeat' (first|apply And.intro|(intro h;try exact cDd)|exact cSd|apply qa []|refine exr ?_|refine qh ?_)
def qfx (b:j5):Bool:=decide (3000<b.base.length) ||decide (10<b.batches.length) ||b.batches.any fun x=>qat x 0
theorem q6x {α : Type} {p : α→Bool} {l:List α} {k:Nat} {a : α} (h:l[k]? = some a):(l.drop k).any p=(p a ||(l.drop (k+1)).any p):=by
 obtain⟨hlt,rfl⟩:=List.getElem?_eq_some_iff.1 h
 rw [List.drop_eq_getElem_cons hlt,List.any_cons]
theorem qj3 {bs:List (List qu)} {i:Nat} {x:List qu} (h:bs[i]? = some x):(bs.map zj)[i]? = some (zj x):=by simp [h]
theorem q4z (b:j5) (st:List AObj) (hl:b.batches.length<9223372036854775808) (hA:∀ x∈b.batches,ArgE x):qm E 32 [wz b] st fun r st'=>r=Bv (qfx b)∧st'=st:=by
 obtain⟨g,base,bs,en,tl⟩:=b
 dsimp only at hl hA
 refine ze [.a (.ag [Iv g,Sv base,vw bs,ku en,Sv tl])] (qq _) Tryz.func32 rfl rfl (fun _=>rfl) rfl fun S0=>?_
 have hml:(bs.map zj).length=bs.length:=by simp
 have ht:(3000<base.length∨10<bs.length)→qfx ⟨g,base,bs,en,tl⟩=true:=fun h=>by unfold qfx;rcases h with h|h <;> simp [h]
 have hf:¬ (3000<base.length∨10<bs.length)→qfx ⟨g,base,bs,en,tl⟩=bs.any fun x=>qat x 0:=fun h=>by unfold qfx;simp at h;simp [show ¬ 3000<base.length by omega,show ¬ 10<bs.length by omega]
 by_cases h:3000<base.length∨10<bs.length
 ·rw [ht h]
  apply qd [1]
  repeat' (first|apply And.intro|(intro h;try exact cDd)|exact cSd|apply qa [1]|refine exr ?_|refine qh ?_)
  all_goals exact absurd h (by omega)
 ·rw [hf h]
  apply qd [1]
  repeat' (first|apply And.intro|(intro h;try exact cDd)|exact cSd|apply qa [1]|refine exr ?_|refine qh ?_)
  refine zq (X:=Nat) (fun k=>⟨[(16,.a (vw bs)),(17,.i (bs.map zj).length),(18,.i k)],[],0⟩) (fun k=>k≤bs.length∧(bs.drop k).any (fun x=>qat x 0)=bs.any fun x=>qat x 0) (fun k=>bs.length - k) 0 ⟨by omega,rfl⟩ ?_ ?_
  ·skip
   repeat' (first|apply And.intro|(intro h;try exact cDd)|exact cSd|apply qa []|refine exr ?_|refine qh ?_)
  ·rintro k ⟨hk,hd⟩
   by_cases hc:k<bs.length
   ·obtain⟨y,hy⟩:∃ y,bs[k]? = some y:=⟨_,List.getElem?_eq_getElem hc⟩
    have hget:=qj3 hy
    have hay:=hA y (List.mem_of_getElem? hy)
    have hhv:=fun st=>q77 y st hay.1 fun z hz=>(hay.2 z hz).1
    rw [q6x hy] at hd
    rw [← hd]
    cases hh:qat y 0 <;> rw [hh] at hhv hd
    all_goals apply qd []
    repeat' (first|apply And.intro|(intro h;try exact cDd)|(refine Exists.intro (k) ⟨by omega,_,hget,?_⟩)|exact⟨Tryz.call26⟩|refine cpe hhv ?_|(refine Exists.intro (k+1) ⟨⟨by omega,by first|(simp;done)|exact hd⟩,by omega,?_⟩)|exact cSd|apply qa []|refine exr ?_|refine qh ?_)
    all_goals (simp;done)
   ·rw [List.drop_eq_nil_of_le (by omega),List.any_nil] at hd
    rw [← hd]
    apply qd []
    repeat' (first|apply And.intro|(intro h;try exact cDd)|exact cSd|apply qa []|refine exr ?_|refine qh ?_)
theorem qze (b:j5) (st:List AObj) (hl:b.batches.length<100000) (he:b.ends.length * 8≤140737488355328) (hb:∀ x∈b.batches,x.length<1000000∧∀ y∈x,y.fields.length<1000000):qm E 33 [wz b] st fun r st'=>r=wz b∧st'=st:=by
 have hp:=qgl b
 obtain⟨g,base,bs,en,tl⟩:=b
 dsimp only at hl hb he
 refine ze [.a (.ag [Iv g,Sv base,vw bs,ku en,Sv tl])] hp Tryz.func33 rfl rfl (fun _=>rfl) rfl fun S0=>?_
 have hml:(bs.map zj).length=bs.length:=by simp
 have hme:(en.map fun x=>Iv x).length=en.length:=by simp
 apply qd [1,2,3,12]
 repeat' (first|apply And.intro|(intro h;try exact cDd)|(refine Or.inr ?_;show (_+_) * 8≤_;simp only [List.length_map,List.length_nil,Nat.zero_add];exact he)|exact cSd|apply qa [1,2,3,12]|refine exr ?_|refine qh ?_)
 refine zq (X:=Nat) (fun k=>⟨[(2,.bx 0 0),(3,.bx 1 0),(18,.a (vw bs)),(19,.i (bs.map zj).length),(20,.i k)],[(0,some (.cells 26 [.i 0,.s [],.a zh,.a zh,.s []])),(1,some (.cells 26 [.i g,.s base,.tp 2,.tp 3,.s tl])),(2,some (.tip 1 55 ((bs.take k).map zj))),(3,some (.tip 1 3 (en.map fun x=>Iv x)))],4⟩) (fun k=>k≤bs.length) (fun k=>bs.length - k) 0 (by omega) ?_ ?_
 ·skip
  repeat' (first|apply And.intro|(intro h;try exact cDd)|exact cSd|apply qa []|refine exr ?_|refine qh ?_)
  all_goals (simp;done)
 ·rintro k hk
  by_cases hc:k<bs.length
  ·obtain⟨y,hy⟩:∃ y,bs[k]? = some y:=⟨_,List.getElem?_eq_getElem hc⟩
   have hget:=qj3 hy
   have hby:=hb y (List.mem_of_getElem? hy)
   have hown:=fun st=>zdn y st hby.1 hby.2
   have htk:bs.take (k+1)=bs.take k++[y]:=by
    obtain⟨_,rfl⟩:=List.getElem?_eq_some_iff.1 hy
    rw [List.take_append_getElem]
   have htl:((bs.take k).map zj).length=k:=by simp;omega
   apply qd [28]
   repeat' (first|apply And.intro|(intro h;try exact cDd)|(refine Exists.intro (k) ⟨by omega,_,hget,?_⟩)|exact⟨Tryz.call81⟩|refine cpe hown ?_|(refine Exists.intro (k+1) ⟨by omega,by omega,?_⟩)|exact cSd|apply qa [28]|refine exr ?_|refine qh ?_)
   all_goals first|(rw [htk];simp [SV.evs,SV.ev];done)|(simp [SV.evs];omega)
  ·rw [List.take_of_length_le (by omega)]
   apply qd []
   repeat' (first|apply And.intro|(intro h;try exact cDd)|exact cSd|apply qa []|refine exr ?_|refine qh ?_)
theorem q9e (b:j5) (st:List AObj) (hB:BkB b):qm E 35 [wz b] st fun r st'=>r = .tu [qho (if (jm b.base b.batches).1 = .no then (jm b.base b.batches).2.given else []),errA (jm b.base b.batches).1]∧st'=st:=by
 have hp:=fun st=>q0r b.base b.batches st hB.base hB.len hB.bat
 refine ze [.a (.ag [Iv b.gen,Sv b.base,vw b.batches,ku b.ends,Sv b.tail])] (kg (qi6 _) (kp _)) Tryz.func35 rfl rfl (fun _=>rfl) rfl fun S0=>?_
 generalize jm b.base b.batches=p at *
 obtain⟨e,r⟩:=p
 cases e
 all_goals apply qd [1]
 repeat' (first|apply And.intro|(intro h;try exact cDd)|exact⟨Tryz.call67⟩|refine cpe hp ?_|exact cSd|apply qa [1]|refine exr ?_|refine qh ?_)
theorem q2b {b:j5} (hA:∀ x∈b.batches,ArgE x) (h:qfx b=false):b.base.length≤3000∧b.batches.length≤10∧∀ x∈b.batches,qpd x∧∀ y∈x,EdB y:=by
 unfold qfx at h
 simp only [Bool.or_eq_false_iff,decide_eq_false_iff_not,List.any_eq_false] at h
 refine⟨by omega,by omega,fun x hx=>?_⟩
 have hh:=qwj (by simpa using h.2 x hx)
 exact⟨hh,zbh (hA x hx) hh⟩
theorem qwt {x:List qu} (h:qpd x):∀ y∈x,y.fields.length<1000000:=fun y hy=>by
 have:=(h.2 y hy).len
 omega
theorem qp8:∀ (b:List qu) (k:Nat) (l:q7) (ids:List Int),(wh k b l ids).2.2.length≤ids.length+b.length
 | [],k,l,ids=>by simp [wh]
 |x::r,k,l,ids=>by
  unfold wh
  split
  ·refine Nat.le_trans (qp8 r _ _ _) ?_
   split <;> simp <;> omega
  ·simp
theorem zay (l:q7) (b:List qu):(doF l b).2.2.length≤b.length:=by
 unfold doF
 split
 ·simpa using qp8 b 0 l []
 ·simp
theorem qjp {m:Nat}:∀ (bs:List (List qu)) (r:RunV),(∀ x∈r.given,x.length≤m)→(∀ x∈bs,x.length≤m)→(∀ x∈(kz bs r).2.given,x.length≤m)∧(kz bs r).2.given.length≤r.given.length+bs.length
 | [],r,h,_=>⟨h,by simp [kz]⟩
 |b::q,r,h,hb=>by
  unfold kz
  split
  ·obtain⟨h1,h2⟩:=qjp q (yt r b) (fun x hx=>by
    rcases List.mem_append.1 hx with hx|hx
    ·exact h x hx
    ·obtain rfl:=List.mem_singleton.1 hx
     exact Nat.le_trans (zay _ _) (hb b (by simp))) fun x hx=>hb x (by simp [hx])
   refine⟨h1,Nat.le_trans h2 ?_⟩
   simp [yt]
   omega
  ·exact⟨h,by simp⟩
theorem qzd {m:Nat} (base:qb) (bs:List (List qu)) (hb:∀ x∈bs,x.length≤m):(∀ x∈(jm base bs).2.given,x.length≤m)∧(jm base bs).2.given.length≤bs.length:=by
 unfold jm
 split
 ·simpa using qjp bs ⟨ofF (itsE base),[],[]⟩ (by simp) hb
 ·simp
theorem q18 {g:List (List Int)} {i:Nat} {x:List Int} (h:g[i]? = some x):(g.map ku)[i]? = some (ku x):=by simp [h]
structure qpc (b:j5) (n:Int) (e:ErrV) (l L:q7) (G:List (List Int)) (t:qb):Prop where
 ok:okE e
 same:e = .no→L=l
 one:∀ st,qm E 23 [wz b,Iv n] st fun r st'=>r=qhv e l∧st'=st
 two:∀ st,qm E 34 [wz b,Iv n] st fun r st'=>r = .tu [kl L,qho G,Iv e.pos,Iv e.code]∧st'=st
 txt:∀ st,qm E 16 [vm l] st fun r st'=>r=Sv t∧st'=st
 rtx:∀ st,qm E 17 [kl l] st fun r st'=>r=Sv t∧st'=st
theorem qyo (b:j5) (n:Int) (hB:BkB b) (hn:¬ (n<0∨(b.batches.length:Int)<n)):∃ e l L G t,qpc b n e l L G t:=by
 obtain⟨m,rfl⟩:∃ m:Nat,n=(m:Int):=⟨n.toNat,by omega⟩
 have h1:=fun st=>qmh b m st hB
 unfold qey at h1
 rw [if_neg hn] at h1
 obtain⟨hlb,hlm,hli⟩:=qxl b.base (b.batches.take m) (by have:=hB.len;simp;omega)
 refine⟨_,_,lR b m,gR b m,_,q5c (@qq6 b.base (b.batches.take m)),fun h=>?_,h1,fun st=>qlh b m st hB (by omega),fun st=>q0h _ st (q0c hlb hli) (qk8 hlb hli),fun st=>qn4 _ st (by have:=hlb.len;simp only [Int.toNat_natCast];omega) (qk8 hlb hli)⟩
 unfold lR
 simp only [Int.toNat_natCast] at h ⊢
 rw [if_pos]
 refine Classical.byContradiction fun hp=>?_
 unfold jm at h
 rw [if_neg hp] at h
 exact hp h
set_option maxHeartbeats 8000000 in
theorem qur (b:j5) (n:Int) (st:List AObj) (hA:∀ x∈b.batches,ArgE x) (hl:b.batches.length<9223372036854775808) (he:b.ends.length * 8≤140737488355328):qm E 6 [wz b,Iv n] st fun r st'=>r=Bv true∧st'=st:=by
 refine ze [.a (.ag [Iv b.gen,Sv b.base,vw b.batches,ku b.ends,Sv b.tail]),.i n] (qq _) Tryz.func6 rfl rfl (fun _=>rfl) rfl fun S0=>?_
 have hal:=q3k
 have hlg:=fun st=>q4z b st hl hA
 cases hh:qfx b with
 |true=>
  rw [hh] at hlg
  apply qd [2,5,8,16]
  repeat' (first|apply And.intro|(intro h;try exact cDd)|exact⟨Tryz.call11⟩|refine cpe hal ?_|exact⟨Tryz.call32⟩|refine cpe hlg ?_|exact cSd|apply qa [2,5,8,16]|refine exr ?_|refine qh ?_)
 |false=>
 rw [hh] at hlg
 obtain⟨h3,h10,hbt⟩:=q2b hA hh
 have hB:BkB b:=⟨by omega,by omega,fun x hx=>⟨⟨by have:=(hbt x hx).1.1;omega,(hbt x hx).2⟩,by have:=(hbt x hx).1.1;omega⟩⟩
 have hpg:=fun st=>qze b st (by omega) he fun x hx=>⟨by have:=(hbt x hx).1.1;omega,qwt (hbt x hx).1⟩
 have hof:=fun st=>q94 b st hB
 have hgv:=fun st=>q9e b st hB
 have hb1:=fun st=>qlh b b.batches.length st hB (Nat.le_refl _)
 rw [List.take_length] at hb1
 have hml:(b.batches.map zj).length=b.batches.length:=by simp
 have hph:(∃ _:n<0∨(b.batches.length:Int)<n,∀ st,qm E 23 [wz b,Iv n] st fun r st'=>r = .tu [.v (.pointer none),errA (.num 1)]∧st'=st)∨(∃ _:¬ (n<0∨(b.batches.length:Int)<n),∃ e l L G t,qpc b n e l L G t):=by
  by_cases hn:n<0∨(b.batches.length:Int)<n
  ·have h:=fun st=>qmh b n st hB
   unfold qey at h
   rw [if_pos hn] at h
   exact .inl ⟨hn,h⟩
  ·exact .inr ⟨hn,qyo b n hB hn⟩
 have hok1:=q5c (@qq6 b.base b.batches)
 have hnm:=fun st=>qq0 (jm b.base b.batches).1 st hok1
 have hat:=fun st=>q9x (jm b.base b.batches).1 st
 obtain⟨hlb,hlm,hli⟩:=qxl b.base b.batches hB.len
 have hI1:∀ e∈(jm b.base b.batches).2.l.ents,e.x.fields.length<1000000:=fun e he=>by have:=(hli e he).2;omega
 have hl1:(jm b.base b.batches).2.l.ents.length<1000000:=by have:=hlb.len;omega
 have ht1:=fun st=>q0h (jm b.base b.batches).2.l st (q0c hlb hli) (qk8 hlb hli)
 have ht2:=fun st=>qn4 (jm b.base b.batches).2.l st hl1 (qk8 hlb hli)
 have hn1:=fun st=>q0g (jm b.base b.batches).2.l st
 have hz1:=fun st=>q2e (jm b.base b.batches).2.l st hl1 hI1
 have hz2:=fun st=>qsi (jm b.base b.batches).2.l st hl1
 have hq1:=fun st=>q8p (stzF (jm b.base b.batches).2.l.ents) st (Nat.lt_of_le_of_lt (qx5 _) hl1) (zca hI1)
 have hlr:(jm b.base b.batches).1 = .no→lR b b.batches.length=(jm b.base b.batches).2.l:=fun h=>by
  unfold lR
  rw [List.take_length,if_pos]
  refine Classical.byContradiction fun hp=>?_
  unfold jm at h
  rw [if_neg hp] at h
  exact hp h
 obtain⟨hgm,hgl⟩:=qzd b.base b.batches (m:=60) fun x hx=>by have:=(hbt x hx).1.1;omega
 unfold gR at hb1
 rw [List.take_length] at hb1
 obtain⟨G,hG,hGm,hGl⟩:∃ G,(if (jm b.base b.batches).1 = .no then (jm b.base b.batches).2.given else [])=G∧(∀ x∈G,x.length≤60)∧G.length≤10:=by
  refine⟨_,rfl,?_,?_⟩ <;> split
  ·exact hgm
  ·simp
  ·omega
  ·simp
 rw [hG] at hgv hb1
 clear hG hgm hgl hlm
 unfold qhv at hof
 generalize lR b b.batches.length=L1 at hb1 hlr
 generalize jm b.base b.batches=p at *
 obtain⟨e,r⟩:=p
 dsimp only at *
 have hGml:(G.map ku).length=G.length:=by simp
 obtain⟨gen,base,bs,en,tl⟩:=b
 dsimp only [wz] at *
 rw [← hml] at hb1
 cases e
 case' no=>obtain rfl:=hlr rfl
 case' num m=>have hm0:m≠0:=hok1
 case' at' a m=>have hm0:m≠0:=hok1
 all_goals apply qd [2,5,8]
 repeat' (first|apply And.intro|(intro h;try exact cDd)|exact⟨Tryz.call11⟩|refine cpe hal ?_|exact⟨Tryz.call32⟩|refine cpe hlg ?_|exact⟨Tryz.call33⟩|refine cpe hpg ?_|exact⟨Tryz.call24⟩|refine cpe hof ?_|exact⟨Tryz.call34⟩|refine cpe hb1 ?_|exact⟨Tryz.call35⟩|refine cpe hgv ?_|exact⟨Tryz.call14⟩|refine cpe hnm ?_|exact⟨Tryz.call15⟩|refine cpe hat ?_|exact⟨Tryz.call16⟩|refine cpe ht1 ?_|exact⟨Tryz.call17⟩|refine cpe ht2 ?_|exact⟨Tryz.call18⟩|refine cpe hn1 ?_|exact⟨Tryz.call31⟩|refine cpe hz1 ?_|exact⟨Tryz.call36⟩|refine cpe hz2 ?_|exact⟨Tryz.call30⟩|refine cpe hq1 ?_|exact absurd (show m=0 by assumption) hm0|exact cSd|apply qa [2,5,8]|refine exr ?_|refine qh ?_)
 all_goals
  refine zq (X:=Nat) (fun k=>⟨[(1,.i n),(2,.bx 0 0),(5,.bx 1 0),(9,.a (qho G)),(12,.a (qho G)),(94,.i (G.map ku).length),(95,.i k)],[(0,some (.cells 32 [.i gen,.s base,.a (vw bs),.a (ku en),.s tl])),(1,some (.cells 26 [.i gen,.s base,.a (vw bs),.a (ku en),.s tl]))],2⟩) (fun k=>k≤G.length) (fun k=>G.length - k) 0 (by omega) ?_ ?_
  ·skip
   repeat' (first|apply And.intro|(intro h;try exact cDd)|exact cSd|apply qa []|refine exr ?_|refine qh ?_)
  ·rintro k hk
   by_cases hc:k<G.length
   ·obtain⟨y,hy⟩:∃ y,G[k]? = some y:=⟨_,List.getElem?_eq_getElem hc⟩
    have hget:=q18 hy
    have hit:=fun st=>zc6 y y st (by have:=hGm y (List.mem_of_getElem? hy);omega)
    rw [decide_eq_true rfl] at hit
    apply qd []
    repeat' (first|apply And.intro|(intro h;try exact cDd)|(refine Exists.intro (k) ⟨by omega,_,hget,?_⟩)|exact⟨Tryz.call37⟩|refine cpe hit ?_|(refine Exists.intro (k+1) ⟨by omega,by omega,?_⟩)|exact cSd|apply qa []|refine exr ?_|refine qh ?_)
   ·rcases hph with⟨hn,hbh⟩ | ⟨hn,e2,l2,L2,G2,t2,hok2,hL2,hbh,hb2,htx,htr⟩
    ·have his:=fun st=>zd9 (.num 1) 1 st (by simp [okE])
     have hisn:=fun st=>qq0 (.num 1) st (by simp [okE])
     apply qd []
     repeat' (first|apply And.intro|(intro h;try exact cDd)|exact⟨Tryz.call23⟩|refine cpe hbh ?_|exact⟨Tryz.call38⟩|refine cpe his ?_|exact cSd|apply qa []|refine exr ?_|refine qh ?_)
    ·have hnm2:=fun st=>qq0 e2 st hok2
     have hat2:=fun st=>q9x e2 st
     unfold qhv at hbh
     have hbf:∀ x∈bs,x.length<1000000∧∀ y∈x,y.fields.length<1000000:=fun x hx=>⟨by have:=(hbt x hx).1.1;omega,qwt (hbt x hx).1⟩
     cases e2
     case' no=>obtain rfl:=hL2 rfl
     case' num m2=>have hm2:m2≠0:=hok2
     case' at' a2 m2=>have hm2:m2≠0:=hok2
     all_goals apply qd [16]
     repeat' (first|apply And.intro|(intro h;try exact cDd)|exact⟨Tryz.call23⟩|refine cpe hbh ?_|exact⟨Tryz.call34⟩|refine cpe hb2 ?_|exact⟨Tryz.call14⟩|refine cpe hnm2 ?_|exact⟨Tryz.call15⟩|refine cpe hat2 ?_|exact absurd (by assumption) hn|exact cSd|apply qa [16]|refine exr ?_|refine qh ?_)
     all_goals first|(rename_i h;simp [ErrV.code,hm2] at h;done)|skip
     all_goals
      first
       |(have:=hm2;refine zq (X:=Nat) (fun k=>⟨[(2,.bx 0 0),(11,.i m2),(15,.a (.v (.pointer none))),(16,.bx 1 0),(156,.a (vw bs)),(157,.i (bs.map zj).length),(158,.i k)],[(0,some (.cells 32 [.i gen,.s base,.a (vw bs),.a (ku en),.s tl])),(1,some (.cells 35 [.a (qbo L2.ents),.i L2.next]))],2⟩) (fun k=>k≤bs.length) (fun k=>bs.length - k) 0 (by omega) ?_ ?_)
       |refine zq (X:=Nat) (fun k=>⟨[(2,.bx 0 0),(11,.i 0),(15,.a (vm L2)),(16,.bx 1 0),(156,.a (vw bs)),(157,.i (bs.map zj).length),(158,.i k)],[(0,some (.cells 32 [.i gen,.s base,.a (vw bs),.a (ku en),.s tl])),(1,some (.cells 35 [.a (qbo L2.ents),.i L2.next]))],2⟩) (fun k=>k≤bs.length) (fun k=>bs.length - k) 0 (by omega) ?_ ?_
      ·skip
       repeat' (first|apply And.intro|(intro h;try exact cDd)|exact cSd|apply qa []|refine exr ?_|refine qh ?_)
      ·rintro k hk
       by_cases hc:k<bs.length
       ·obtain⟨y,hy⟩:∃ y,bs[k]? = some y:=⟨_,List.getElem?_eq_getElem hc⟩
        have hget:=qj3 hy
        have hby:=hbf y (List.mem_of_getElem? hy)
        have hed:=fun st=>qyx y st hby.1 hby.2
        apply qd []
        repeat' (first|apply And.intro|(intro h;try exact cDd)|(refine Exists.intro (k) ⟨by omega,_,hget,?_⟩)|exact⟨Tryz.call39⟩|refine cpe hed ?_|(refine Exists.intro (k+1) ⟨by omega,by omega,?_⟩)|exact cSd|apply qa []|refine exr ?_|refine qh ?_)
       ·apply qd []
        repeat' (first|apply And.intro|(intro h;try exact cDd)|exact⟨Tryz.call16⟩|refine cpe htx ?_|exact⟨Tryz.call17⟩|refine cpe htr ?_|exact cSd|apply qa []|refine exr ?_|refine qh ?_)
        all_goals (simp;done)
end Go.Proofs.YtmoklbacdkmkaaaGreatDoor
namespace Go.Proofs.YtmoklbacdkmkaaaGreatDoor
open Go Go.Av Go.RowKit Go.WideShapes Go.ChangeShapes Go.Deep Go.Proofs Go.Pl
theorem qeq {H:Type} {P:Program} {n:Nat} {t:TypeId} {d:DataW H} (hn:n∈d.weights P t):∀ (ts:List TypeId) (ds:List (DataW H)) (i:Nat),ts[i]? = some t→ds[i]? = some d→n∈DataW.weightsEach P ts ds
 | [],_,i,h,_=>by simp at h
 |u::ts,[],i,_,h=>by simp at h
 |u::ts,e::ds,i,h1,h2=>by
  unfold DataW.weightsEach
  cases i with
  |zero=>
   simp only [List.getElem?_cons_zero,Option.some.injEq] at h1 h2
   subst h1
   subst h2
   exact List.mem_append_left _ hn
  |succ i=>exact List.mem_append_right _ (qeq hn ts ds i (by simpa using h1) (by simpa using h2))
theorem qt2 {G:Gh} {xs:List AV} {sz len cap:Nat} {p:Option Addr} (h:Rel G (.sl sz xs none) (.slice p len cap)):xs.length=len:=by
 cases h <;> simp_all
theorem qyz {H:Type} {enc:TypeId×Value→H} {P:Program} {W:World} {t e:TypeId} {fs:Array Field} {f:Field} {i fuel:Nat} {cs:List Value} {x:DataW H×List MemPlace} {sz:Nat} {xs:List AV} {c:Value}
  (hu:P.underlying t=some (.struct fs)) (h:DataW.trod enc P W 0 (fun _=>true) true fuel t cs=some x) (hf:fs[i]? = some f) (hfe:P.underlying f.type=some (.slice e)) (h1:P.cellsOf f.type=1)
  (hc:cs[f.offset]? = some c) (hr:Rel (gW W) (.sl sz xs none) c) (hw:(x.1.weights P t).all (·≤reachBytes)=true):xs.length * P.bytesOf e≤reachBytes:=by
 obtain⟨ys,n,_,rfl,hcl,hxl,hg⟩:=DataW.trod_struct hu h
 have ht:=hg i f hf
 have hi:i<fs.size:=(Array.getElem?_eq_some_iff.1 hf).1
 have hol:f.offset<cs.length:=(List.getElem?_eq_some_iff.1 hc).1
 have hd:(cs.drop f.offset).take 1=[c]:=by
  rw [List.drop_eq_getElem_cons hol,(List.getElem?_eq_some_iff.1 hc).2]
  rfl
 rw [h1,hd,List.getElem?_eq_getElem (by omega)] at ht
 rcases open_slice hfe ht with⟨hq,_⟩ | ⟨a,len,cap,m,k,D,Pl,hq,_,hlc,hcm,hm,hx,_⟩
 ·simp only [List.cons.injEq,and_true] at hq
  subst hq
  have:=qt2 hr
  simp [this]
 ·simp only [List.cons.injEq,and_true] at hq
  subst hq
  have hl:=qt2 hr
  have hmem:(len+(m - len)) * P.bytesOf e∈(ys[i]'(by omega)).1.weights P f.type:=by
   rw [hx]
   unfold DataW.weights
   rw [hfe]
   simp
  have hag:(len+(m - len)) * P.bytesOf e∈(DataW.agg (H:=H) (ys.map (·.1))).weights P t:=by
   unfold DataW.weights
   rw [hu]
   refine qeq hmem _ _ i ?_ ?_
   ·simp [hf]
   ·simp [List.getElem?_eq_getElem (show i<ys.length by omega)]
  have hle:=of_decide_eq_true (List.all_eq_true.1 hw _ hag)
  rw [hl]
  exact Nat.le_trans (Nat.mul_le_mul_right _ (by omega)) hle
def BkI (b:j5):Prop:=(∀ x∈b.batches,ArgE x)∧b.batches.length<9223372036854775808
theorem zdm:Opn Tryz.prog 32 fun a=>∃ b:j5,a=wz b∧BkI b:=by
 intro H enc W fuel cs x h
 obtain⟨a,⟨vs,rfl,hl,hv⟩,hr⟩:=qkm (As:=[(some (.int .i64),IsI .i64),(some .string,IsS),(some (.slice 55),IsSl 1 fun a=>∃ xs:List qu,a=zj xs∧ArgE xs),(some (.slice 3),IsSl 1 (IsI .i64)),(some .string,IsS)]) (by kernel_rfl) (by kernel_rfl) (by kernel_rfl) (by kernel_rfl)
  (List.forall_mem_cons.2 ⟨⟨fun _ h=>qu0 h,q2k _⟩,List.forall_mem_cons.2 ⟨⟨fun _ h=>qu1 h,quz⟩,List.forall_mem_cons.2 ⟨⟨fun _ h=>qq3 h (by kernel_rfl) (by decide) (q5i (by kernel_rfl)),q5e _ _⟩,List.forall_mem_cons.2 ⟨⟨fun _ h=>qq3 h (by kernel_rfl) (by decide) (qu0 (by kernel_rfl)),q5e _ _⟩,List.forall_mem_cons.2 ⟨⟨fun _ h=>qu1 h,quz⟩,nofun⟩⟩⟩⟩⟩) H enc W fuel cs x h
 match vs,hl with
 | [v0,v1,v2,v3,v4],_=>
  obtain⟨n0,rfl,w0⟩:=hv 0 _ _ rfl rfl
  obtain⟨n1,rfl,w1⟩:=hv 1 _ _ rfl rfl
  obtain⟨_,rfl,m2,w2⟩:=hv 2 _ _ rfl rfl
  obtain⟨_,rfl,m3,w3⟩:=hv 3 _ _ rfl rfl
  obtain⟨n4,rfl,w4⟩:=hv 4 _ _ rfl rfl
  obtain⟨x2,rfl,q2⟩:=qjy w2
  obtain⟨x3,rfl,q3⟩:=qjy w3
  exact⟨_,⟨⟨n0,n1,x2,x3,n4⟩,rfl,q2,qwu (by simpa using m2)⟩,hr⟩
theorem q70:((fieldsOf Tryz.prog 32)[3]?).map (fun f=>(Tryz.prog.underlying f.type,Tryz.prog.cellsOf f.type,f.offset))=some (some (.slice 3),1,3):=by kernel_rfl
theorem zcl {H:Type} {enc:TypeId×Value→H} {W:World} {r:Reach} {b0:Nat} {v:Value} {d:DataW H} {ps:List MemPlace} (hu:Tryz.prog.underlying 32=some (.struct (fieldsOf Tryz.prog 32)))
  (hval:Value.okWide Tryz.prog W r b0 32 v) (hd:DataW.Trod enc Tryz.prog W 0 (fun _=>true) true 32 v d ps) (hw:(d.weights Tryz.prog 32).all (·≤reachBytes)=true) :
  ∃ b:j5,(BkI b∧b.ends.length * 8≤140737488355328)∧Rel (gW W) (wz b) v:=by
 obtain⟨cs,rfl,_⟩:=okWide_struct hu hval
 obtain⟨fuel,hf⟩:=hd
 obtain⟨_,⟨b,rfl,hb⟩,hr⟩:=zdm H enc W fuel _ _ hf
 have hrel:Rel (gW W) (wz b) (.agg cs):=.ag _ cs (by simpa [AV.cells,Value.cells] using hr.1) fun i x z hx hz=>hr.2 i x z hx (by simpa [Value.cells] using hz)
 refine⟨b,⟨hb,?_⟩,hrel⟩
 have hff:=q70
 rw [Option.map_eq_some_iff] at hff
 obtain⟨f,hf3,hfe⟩:=hff
 simp only [Prod.mk.injEq] at hfe
 have hlen:cs.toList.length=5:=by
  have:=hr.1
  simpa [AV.cells,Value.cells] using this.symm
 have hc:(Value.agg cs).cells.toList[3]? = some (cs.toList[3]'(by omega)):=by
  simp [Value.cells]
 have h3:=hr.2 3 (ku b.ends) _ rfl hc
 have:=qyz hu hf hf3 hfe.1 hfe.2.1 (by rw [hfe.2.2];exact hc) h3 hw
 rw [show Tryz.prog.bytesOf 3=8 by kernel_rfl,List.length_map] at this
 exact Nat.le_trans this (by decide)
theorem quq (b:j5) (hb:BkI b∧b.ends.length * 8≤140737488355328) (n:Int) (hn : -9223372036854775808≤n∧n≤9223372036854775807) (st:List AObj):qm E 6 [wz b,Iv n] st fun r st'=>r=Bv true∧st'=st:=
 qur b n st hb.1.1 hb.1.2 hb.2
end Go.Proofs.YtmoklbacdkmkaaaGreatDoor
namespace Go.Pl
open Go
def i64 (n:Int):Prop:= -9223372036854775808≤n∧n≤9223372036854775807
end Go.Pl
