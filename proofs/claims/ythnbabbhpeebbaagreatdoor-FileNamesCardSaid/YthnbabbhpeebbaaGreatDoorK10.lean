/- Contracts and plain facts that the closing text leans on (part 10). No condition of their own beyond those that each states. -/
import Derived.Test.YthnbabbhpeebbaaGreatDoorK9
set_option maxRecDepth 100000
set_option linter.unusedVariables false
set_option linter.unusedSimpArgs false
open And renaming intro→Qb
open Bool renaming and_eq_true→Qc
open Exists renaming intro→Qa
open List renaming forall_mem_cons→Qe,mem_singleton→Qg,all_eq_true→Qi,length_pos_iff→Qj,length_drop→Ql,append_nil→Qn
open Nat renaming le_of_ble_eq_true→Qd,ble→Qf,blt→Qh,le_refl→Qp,beq→Qr
open Option.some renaming injEq→Qk,inj→Qq
open Prod renaming snd→Qm,ext→Qo
namespace Go.Proofs.YthnbabbhpeebbaaGreatDoor
open Go Go.Av Go.RowKit Go.Proofs Go.Pl
abbrev qfq(o:Nat)(n t:qa)(d:qc)(b:List qt)(e:ErrV)(s:qa)(d':qc):Prop:=qz E 19 [.bx 0 0,.a (jz b)] 2 (hpF (dhH o n t d)) ⟨.a (errA e),q8 (dhH o n t d),dhH2 o n s d'++q9 (dhH o n t d),3⟩
theorem zfa(o:Nat)(n t:qa)(d:qc)(b:List qt)(e:ErrV)(r7:qz E 12 [.bx 0 0] 2 (hpF (dhH o n t d)) ⟨.a (errA e),q8 (dhH o n t d),dhH2 o n t d++q9 (dhH o n t d),3⟩)(he:e≠.no):qfq o n t d b e t d:=by
 obtain⟨T,y,hy⟩:=qab he;unfold qfq;rw[hy]at r7⊢;refine jx [.bx 0 0,.a (jz b)] (dhH o n t d) 2 (.a (.ifc T y)) (dhH2 o n t d) 3 Tryz.func19 rfl rfl rfl rfl λS F ρ=>?_;apply jp;repeat' (first|apply Qb|(intro h;try exact cDd)|(refine qae (id:=8) ?_)|(refine v6 [2] ?_)|(refine locX (qg9 [.fn (.func 50) [] [.bx 2 0,.bx 4 0],.fn (.func 51) [v8 o n] []] rfl rfl rfl rfl rfl rfl rfl rfl rfl ?_))|(refine locK ?_)|exact⟨Tryz.call12⟩|exact⟨Tryz.call48⟩|exact⟨Tryz.call49⟩|(refine qcy [(0,0),(1,1)] r7 ?_)|(refine Qa t.length ⟨rfl,?_⟩)|(refine entE [(0,0),(1,1),(2,3)] ?_)|exact cSd|apply qb []|refine exr ?_|refine qf ?_)
 all_goals first|assumption|rfl|omega|(simp;done)
theorem zfb(o:Nat)(n t s:qa)(d:qc)(b:List qt)(e:ErrV)(r7:qz E 12 [.bx 0 0] 2 (hpF (dhH o n t d)) ⟨.a (errA .no),q8 (dhH o n t d),dhH2 o n t d++q9 (dhH o n t d),3⟩)(gw:qj2 o n t b e s)(he:e≠.no):qfq o n t d b e t d:=by
 obtain⟨T,y,hy⟩:=qab he;unfold qfq;unfold qj2 at gw;rw[hy]at gw⊢;refine jx [.bx 0 0,.a (jz b)] (dhH o n t d) 2 (.a (.ifc T y)) (dhH2 o n t d) 3 Tryz.func19 rfl rfl rfl rfl λS F ρ=>?_;apply jp;repeat' (first|apply Qb|(intro h;try exact cDd)|(refine qae (id:=8) ?_)|(refine v6 [2] ?_)|(refine locX (qg9 [.fn (.func 50) [] [.bx 2 0,.bx 4 0],.fn (.func 51) [v8 o n] []] rfl rfl rfl rfl rfl rfl rfl rfl rfl ?_))|(refine locK ?_)|exact⟨Tryz.call12⟩|exact⟨Tryz.call48⟩|exact⟨Tryz.call49⟩|(refine qcy [(0,0),(1,1)] r7 ?_)|(refine qx gw ?_)|(refine Qa t.length ⟨rfl,?_⟩)|(refine entE [(0,0),(1,1),(2,3)] ?_)|exact cSd|apply qb []|refine exr ?_|refine qf ?_)
 all_goals first|assumption|rfl|omega|(simp;done)
theorem zfc(o:Nat)(n t s:qa)(d d2:qc)(b:List qt)(e:ErrV)(r7:qz E 12 [.bx 0 0] 2 (hpF (dhH o n t d)) ⟨.a (errA .no),q8 (dhH o n t d),dhH2 o n t d++q9 (dhH o n t d),3⟩)(gw:qj2 o n t b .no s)(hl:t.length<=s.length)(gk:qdi o n t d (s.drop t.length) e d2)(he:e≠.no):qfq o n t d b e t d2:=by
 obtain⟨T,y,hy⟩:=qab he;unfold qfq;unfold qj2 at gw;unfold qdi at gk;rw[hy]at gk⊢;refine jx [.bx 0 0,.a (jz b)] (dhH o n t d) 2 (.a (.ifc T y)) (dhH2 o n t d2) 3 Tryz.func19 rfl rfl rfl rfl λS F ρ=>?_;apply jp;repeat' (first|apply Qb|(intro h;try exact cDd)|(refine qae (id:=8) ?_)|(refine v6 [2] ?_)|(refine locX (qg9 [.fn (.func 50) [] [.bx 2 0,.bx 4 0],.fn (.func 51) [v8 o n] []] rfl rfl rfl rfl rfl rfl rfl rfl rfl ?_))|(refine locK ?_)|exact⟨Tryz.call12⟩|exact⟨Tryz.call48⟩|exact⟨Tryz.call49⟩|(refine qcy [(0,0),(1,1)] r7 ?_)|(refine qx gw ?_)|(refine qcy [(0,0),(1,3),(2,2),(3,4),(4,5)] gk ?_)|(refine Qa t.length ⟨rfl,?_⟩)|(refine entE [(0,0),(1,1),(2,6)] ?_)|exact cSd|apply qb []|refine exr ?_|refine qf ?_)
 all_goals first|assumption|rfl|omega|(simp;done)
theorem zfd(o:Nat)(n t s:qa)(d d2:qc)(b:List qt)(r7:qz E 12 [.bx 0 0] 2 (hpF (dhH o n t d)) ⟨.a (errA .no),q8 (dhH o n t d),dhH2 o n t d++q9 (dhH o n t d),3⟩)(gw:qj2 o n t b .no s)(hl:t.length<=s.length)(gk:qdi o n t d (s.drop t.length) .no d2):qfq o n t d b .no s d2:=by
 unfold qfq;unfold qj2 at gw;unfold qdi at gk;refine jx [.bx 0 0,.a (jz b)] (dhH o n t d) 2 (.a (errA .no)) (dhH2 o n s d2) 3 Tryz.func19 rfl rfl rfl rfl λS F ρ=>?_;apply jp;repeat' (first|apply Qb|(intro h;try exact cDd)|(refine qae (id:=8) ?_)|(refine v6 [2] ?_)|(refine locX (qg9 [.fn (.func 50) [] [.bx 2 0,.bx 4 0],.fn (.func 51) [v8 o n] []] rfl rfl rfl rfl rfl rfl rfl rfl rfl ?_))|(refine locK ?_)|exact⟨Tryz.call12⟩|exact⟨Tryz.call48⟩|exact⟨Tryz.call49⟩|(refine qcy [(0,0),(1,1)] r7 ?_)|(refine qx gw ?_)|(refine qcy [(0,0),(1,3),(2,2),(3,4),(4,5)] gk ?_)|(refine Qa t.length ⟨rfl,?_⟩)|(refine entE [(0,0),(1,1),(2,6)] ?_)|exact cSd|apply qb []|refine exr ?_|refine qf ?_)
 all_goals first|assumption|rfl|omega|(simp;done)
theorem q8c(o:Nat)(n t:qa)(d:qc)(b:List qt)(hd:d.Bd 700000)(hn:n.length<1000000)(ht:t.length<1000000)(hB:∀x∈b,EdB x)(hl:b.length<1000000)(hs:(xa t b).1=.no->t.length<=(xa t b).2.length∧(xa t b).2.length<190000):qfq o n t d b (qdy d n t b).1 (qdy d n t b).2.1 (qdy d n t b).2.2:=by
 have r7:=qzh o n t d (hd.mono Om) hn;have gw:=q8i o n t b ht hB hl;unfold qdy;generalize qfy d n t=e1 at *;by_cases h1:e1=.no
 .subst h1
  rw[if_neg Sx];generalize xa t b=q at *;obtain⟨e2,s⟩:=q;simp only at gw hs⊢;by_cases h2:e2=.no
  .subst h2
   rw[if_neg Sx];obtain⟨hs1,hs2⟩:=hs rfl;have gk:=zbw o n t (s.drop t.length) d hd hn (by rw[Ql];omega);generalize(vw (d.write n (s.drop t.length)) λd=>d.sync n)=p at *;obtain⟨e3,d2⟩:=p;simp only at gk⊢;by_cases h3:e3=.no
   .subst h3
    rw[if_neg Sx];exact zfd o n t s d d2 b r7 gw hs1 gk
   .rw[if_pos h3]
    exact zfc o n t s d d2 b e3 r7 gw hs1 gk h3
  .rw[if_pos h2]
   exact zfb o n t s d b e2 r7 gw h2
 .rw[if_pos h1]
  exact zfa o n t d b e1 r7 h1
end Go.Proofs.YthnbabbhpeebbaaGreatDoor
namespace Go.Av
open Go Go.RowKit
theorem qy1{E:Env}{f:FuncId}{vs:List SV}{v:SV}{R:SR}{q nx:Nat}{H:Nat->Option SR}(h:qz E f (.bx 0 0::vs) 1 (hpF [(0,some R)]) ⟨v,q8 [(0,some R)],[(0,some R)]++q9 [(0,some R)],1⟩)(hv:v.all (λ_=>false)=true)(hvs:SV.alls (λ_=>false) vs=true)(hR:R.all (λ_=>false)=true)(hq:H q=some R):
  qz E f (.bx q 0::vs) nx H ⟨v,[q],[],nx⟩:=λρ S hS=>by
 let ρ0:Nat->AV:=λ_=>ρ q
 have key:∀k x,hpF [(0,some R)] k=some x->k=0∧x=R:=λk x hk=>by
  unfold hpF at hk;simp only[lkS]at hk;by_cases e:0=k
  .subst e
   simp at hk;exact⟨rfl,hk.symm⟩
  .rw[zq e]at hk
   simp at hk
 have hA:=hS.ok q _ ((z8 q).trans hq);have hA0:R.ok ρ0 S (ρ q):=SR.ok_of (f:=λ_=>false) hR (λk hk=>by simp at hk) hA λ_ _=>rfl
 have hS0:SatF S ρ0 (resF (q8 [(0,some R)]) (hpF [(0,some R)])):=by
  rw[jb];exact⟨λk x hk=>by obtain⟨rfl,rfl⟩:=key k x hk;exact hA0,λk k' x x' d7 g1 g2=>absurd ((key k x g1).1.trans (key k' x' g2).1.symm) d7⟩
 have fx:SV.evs ρ (.bx q 0::vs)=SV.evs ρ0 (.bx 0 0::vs):=by
  simp only[SV.evs,SV.ev];rw[wy (λk hk=>by simp at hk) vs hvs]
 rw[fx];refine(h ρ0 S hS0).mono ?_;rintro y S' ⟨ρ',rfl,hp⟩;have cd:=hp.sat;have t6:=hp.fr;simp only[jb,x3]at cd t6;have h0:ρ' 0=ρ q:=hp.old 0 (.inl (Nat.zero_lt_one))
 have key3:∀k x,chF [] (resF [q] H) k=some x->k=q∧x=R:=λk x hk=>by
  simp only[chF,lkS]at hk;by_cases e:k=q
  .subst e
   rw[z8,hq]at hk;exact⟨rfl,(Qq hk).symm⟩
  .have:=(jv hk).1
   simp only[memN,List.any_cons,List.any_nil,Bool.or_false]at this;exact absurd (Nat.eq_of_beq_eq_true this) e
 refine⟨ρ,xe (λk hk=>by simp at hk) v hv,λ_ _=>rfl,⟨λk x hk=>?_,λk k' x x' d7 g1 g2=>absurd ((key3 k x g1).1.trans (key3 k' x' g2).1.symm) d7⟩,hp.len,λj hj hn=>t6 j hj λk x hk=>?_,λk x hk o ho=>.inr ⟨k,x,hk,ho⟩⟩
 .obtain⟨rfl,rfl⟩:=key3 k x hk
  have:=cd.ok 0 x rfl;rw[h0]at this;exact SR.ok_of (f:=λ_=>false) hR (λk hk=>by simp at hk) this λ_ _=>rfl
 .obtain⟨rfl,rfl⟩:=key k x hk
  exact hn q _ ((z8 q).trans hq)
theorem qpd{E:Env}{f:FuncId}{vs0:List SV}{i7:List (Nat×Option SR)}{nx0:Nat}{r:SV}{p8:List (Nat×Option SR)}{nx1:Nat}(q:Nat)(σ:List (Nat×Nat))(h:qz E f vs0 nx0 (hpF i7) ⟨r,q8 i7,p8++q9 i7,nx1⟩){ln:List (Nat×Option SR)}{vs:List SV}{nx:Nat}{k:Ef->Prop}{R:SR}(hq:hpF ln q=some R)
  (hw:vs.length=vs0.length∧okC ⟨zl 0 vs,fltH (σ.map Qm) ln,nx⟩=true∧EntC σ ⟨zl 0 vs,fltH (σ.map Qm) ln,nx⟩ ⟨zl 0 vs0,i7,nx0⟩∧okC ⟨[(0,r)],p8,nx1⟩=true∧
   (qma (q8 p8)&&p8.all (λq=>(lkS (newN nx0 nx (nx1-nx0)++σ) q.1).isSome)&&σ.all (λq=>Qh q.1 nx0&&Qh q.2 nx)&&Qf nx0 nx1)=true∧
   k ⟨r.ren (newN nx0 nx (nx1-nx0)++σ),σ.map Qm,renH (newN nx0 nx (nx1-nx0)++σ) p8++outH (σ.map Qm),nx+(nx1-nx0)⟩):∃e,qz E f vs nx (hpF ln) e∧k e:=qcy σ h hw
theorem q7q{E:Env}{f:FuncId}{fn:Func}{c:Code}{ι:Type}(vs:List SV)(i7:List (Nat×Option SR))(nx0:Nat)(r:ι->SV)(p8:ι->List (Nat×Option SR))(nx1:Nat)(hf:E.P.funcs[f]?=some fn)(hb:fn.body=some c)(hn:Qf vs.length fn.ntmps=true)
  (hc:okC ⟨zl 0 vs,i7,nx0⟩=true) (mt:∀i,okC ⟨[(0,r i)],p8 i,nx1⟩=true)
  (h:∀S F ρ,numK 0 vs λsl=>Sm E none fn.ntmps ⟨S,F,ρ,nx0,False⟩ c (λe C=>∃i,retE E.P fn nx0 (r i) (p8 i) nx1 e C) ⟨sl,i7,nx0⟩) (ρ:Nat->AV) (S:List AObj) (hS:SatF S ρ (resF (q8 i7) (hpF i7))):qm E f (SV.evs ρ vs) S λr' S'=>∃i ρ',r'=(r i).ev ρ'∧qa9 ρ S nx0 (hpF i7) ⟨r i,q8 i7,p8 i++q9 i7,nx1⟩ ρ' S':=by
 simp only[qfk]at h;simp only[jb]at hS;have b9:(SV.evs ρ vs).length=vs.length:=by rw[zw,List.length_map]
 refine qq hf hb (by rw[b9];exact Qd hn) ?_;rw[Qn];simp only[okC,Qc]at hc
 have hwhp:∀k r,hpF i7 k=some r->k<nx0∧r.all (λk=>Qh k nx0)=true:=λk r hk=>by
  have:=Qi.1 hc.2 _ (ji (vo hk));simp only[Qc]at this;exact⟨jj this.1,this.2⟩
 have d9:SatC ⟨S,yh i7 ρ,ρ,nx0,False⟩ ⟨zl 0 vs,i7,nx0⟩ ⟨argT (SV.evs ρ vs),S,[]⟩:=by
  refine⟨ρ,⟨nofun,List.nodup_nil,λ_ _=>rfl,Qp _,nofun⟩,⟨λd v hd=>?_,hS,λk r hk o ho=>.inr ⟨k,r,hk,ho⟩,λ_ _ _=>rfl,Qp _,λd v hd=>?_,hwhp⟩⟩
  .obtain⟨j,h1,h2⟩:=xo hd
   have:(SV.evs ρ vs)[j]?=some (v.ev ρ):=by rw[zw,List.getElem?_map,h2];rfl
   rw[h1,Nat.zero_add];simp only[argT,List.getD,this,Option.getD_some]
  .exact Qi.1 hc.1 _ (ji hd)
 refine((h S (yh i7 ρ) ρ).run _ d9).mono λe s' ⟨C',⟨i,hq⟩,bz⟩=>?_;have mt:=mt i;simp only[okC,Qc]at mt;generalize hri:r i=r1 at hq mt;generalize cg:p8 i=h1 at hq mt;obtain⟨t,S',df⟩:=s';obtain⟨ρ2,i5,hR⟩:=bz;simp only at i5 hR
 have fin:(match resV E.P fn.ntmps C' fn.results.toList with
  |some v=>v.all (λk=>Qh k C'.nx)=true∧EntE nx0 ⟨[(0,v)],C'.hp,C'.nx⟩ ⟨[(0,r1)],h1,nx1⟩
  |none=>False)->ARet E fn (λr' S'=>∃i ρ',r'=(r i).ev ρ'∧qa9 ρ S nx0 (hpF i7) ⟨r i,q8 i7,p8 i++q9 i7,nx1⟩ ρ' S') ⟨t,S',df⟩:=λh=>by
  split at h
  .rename_i v hv
   obtain⟨hva,he⟩:=h;obtain⟨σ,mg,he⟩:=he.ent;refine qbf hR i5.dm i5.nd λS2 s8=>?_
   have lv:SatR S (yh i7 ρ) ⟨[(0,v)],C'.hp,C'.nx⟩ ρ2 (λ_=>v.ev ρ2) S2:=
    ⟨λd u hd=>by
     simp only[lkS]at hd
     cases hb:Qr 0 d with
     |true=>rw[hb]at hd;simp only[cond_true,Qk]at hd;rw[hd]
     |false=>rw[hb]at hd;simp[lkS]at hd,s8.hp,s8.own,s8.low,s8.len,λd u hd=>by
     simp only[lkS]at hd
     cases hb:Qr 0 d with
     |true=>rw[hb]at hd;simp only[cond_true,Qk]at hd;rw[<-hd];exact hva
     |false=>rw[hb]at hd;simp[lkS]at hd,s8.whp⟩
   obtain⟨t',hw,u7⟩:=he.sat lv
   have nq:∀k,k<nx0->renR σ ρ2 k=ρ k:=λk hk=>by
    simp only[Qc]at mg;unfold renR;rw[qgs mg.1 k hk];exact i5.rig k hk
   have hrn:nx0<=nx1:=by
    simp only[Qc]at mg;exact Qd mg.2
   generalize renR σ ρ2=ρ3 at u7 nq;have h0:t' 0=r1.ev ρ3:=u7.sl 0 r1 rfl;have hwk:=hw 0;rw[h0]at hwk
   let ρ':Nat->AV:=λk=>bif Qf nx1 k then ρ k else ρ3 k
   have hρ':∀k,Qh k nx1=true->ρ' k=ρ3 k:=λk hk=>by
    show(bif Qf nx1 k then ρ k else ρ3 k)=_
    have:Qf nx1 k=false:=by
     cases hb:Qf nx1 k with
     |false=>rfl
     |true=>have:=Qd hb;have:=jj hk;omega
    rw[this];rfl
   have hra:r1.all (λk=>Qh k nx1)=true:=Qi.1 mt.1 (0,r1) Sx;have fx:r1.ev ρ'=r1.ev ρ3:=xe hρ' r1 hra;refine qo rfl (vh (qlp s8 hv) hwk) ⟨i,ρ',by rw[hri];exact fx.symm,?_⟩;rw[hri,cg]
   have lq:∀k r,hpF h1 k=some r->ρ' k=ρ3 k∧r.all (λk=>Qh k nx1)=true:=λk r hk=>by
    obtain⟨g1,g2⟩:=u7.whp k r hk;exact⟨hρ' k (xd g1),g2⟩
   refine⟨λk hk=>?_,?_,u7.len,λj hj hn=>?_,λk r hk o ho=>?_⟩
   .show(bif Qf nx1 k then ρ k else ρ3 k)=_
    cases hb:Qf nx1 k with
    |true=>rfl
    |false=>
     rcases hk with hk|hk
     .exact nq k hk
     .have:=Nat.ble_eq_true_of_le hk
      simp only at this;rw[this]at hb;simp at hb
   .simp only[jb,x3]
    refine⟨λk r hk=>?_,λk k' r r' d7 h1 h2 o ho=>?_⟩
    .obtain⟨g1,g2⟩:=lq k r hk
     rw[g1];exact SR.ok_of g2 hρ' (u7.hp.ok k r hk) λ_ _=>rfl
    .rw[(lq k r h1).1]at ho
     rw[(lq k' r' h2).1];exact u7.hp.sep k k' r r' d7 h1 h2 o ho
   .simp only[jb]at hn
    exact u7.low j hj λ⟨k,r,hk,hl⟩=>hn k r hk hl
   .simp only[jb,x3]at hk⊢
    rw[(lq k r hk).1]at ho;exact u7.own k r hk o ho
  .exact h.elim
 cases e with
 |normal=>exact fin hq
 |ret=>exact fin hq
 |_=>exact hq.elim
theorem zf0{E:Env}{f:FuncId}{vs:List SV}{ι:Type}{r:ι->SV}{A:ι->Clu}(nx:Nat)(H:Nat->Option SR)(hvs:SV.alls (λ_=>false) vs=true)(hr:∀i,(r i).all (λ_=>false)=true)
  (h:∀(ρ:Nat->AV)(S:List AObj),SatF S ρ (resF (q8 []) (hpF []))->qm E f (SV.evs ρ vs) S λr' S'=>∃i ρ',r'=(r i).ev ρ'∧qa9 ρ S 0 (hpF []) ⟨r i,q8 [],[(0,some (SR.clu (A i) []))]++q9 [],1⟩ ρ' S'):
  qk6 E f vs nx H λi=>⟨r i,[],[(nx,some (.clu (A i) []))],nx+1⟩:=λρ S hS=>by
 refine(h ρ S ⟨λk x hk=>by simp[resF,hpF,lkS,q8]at hk,λk k' x x' d7 hk=>by simp[resF,hpF,lkS,q8]at hk⟩).mono ?_;rintro y S' ⟨i,ρ',rfl,hp⟩
 have key2:∀k x,hpF [(0,some (SR.clu (A i) []))] k=some x->k=0∧x=.clu (A i) []:=λk x hk=>by
  unfold hpF at hk;simp only[lkS]at hk;by_cases e:0=k
  .subst e
   simp at hk;exact⟨rfl,hk.symm⟩
  .rw[zq e]at hk
   simp at hk
 have cd:=hp.sat;have t6:=hp.fr;have hloc:=hp.loc;simp only[jb,x3]at cd t6 hloc
 have key3:∀k x,chF [(nx,some (SR.clu (A i) []))] (resF [] H) k=some x->k=nx∧x=.clu (A i) []:=λk x hk=>by
  simp only[chF,lkS]at hk;by_cases e2:nx=k
  .subst e2
   simp at hk;exact⟨rfl,hk.symm⟩
  .rw[zq e2]at hk
   rw[qdv]at hk;simp at hk
 refine⟨i,upd ρ nx (ρ' 0),xe (λk hk=>by simp at hk) (r i) (hr i),λk hk=>jq _ _ (by simp only at hk;omega),⟨λk x hk=>?_,λk k' x x' d7 g1 g2=>absurd ((key3 k x g1).1.trans (key3 k' x' g2).1.symm) d7⟩,hp.len,λj hj hn=>t6 j hj λk x hk=>by simp[hpF,lkS]at hk,λk x hk o ho=>?_⟩
 .obtain⟨rfl,rfl⟩:=key3 k x hk
  rw[zi];exact cd.ok 0 _ rfl
 .obtain⟨rfl,rfl⟩:=key3 k x hk
  rw[zi]at ho;rcases hloc 0 _ rfl o ho with g|⟨k',x',g1,g2⟩
  .exact .inl g
  .simp[hpF,lkS]at g1
end Go.Av
namespace Go.Pl
open Go Go.Av Go.Proofs Go.Proofs.YthnbabbhpeebbaaGreatDoor
theorem qr0{p:ErrV×qc}{f:qc->ErrV×qc}{d:qc}(h:vw p f=(.no,d)):p.1=.no∧f p.2=(.no,d):=by
 unfold vw at h;split at h
 .exact⟨by assumption,h⟩
 .rename_i hp
  rw[h]at hp;exact absurd rfl hp
def xt:qa:=[65,58,32,49,10]
def xq:qa:=[65,58,32,49,10,37,97,109]
def qbz:List qt:=[⟨2,1,[]⟩]
theorem zeh:(zg xq).1=.no∧(zg xq).2.1.tail=[37,97,109]∧js (zg xq).2.1=xt:=by decide +kernel
theorem zeg:(xa xt qbz).1=.no∧30<(xa xt qbz).2.length∧(xa xt qbz).2.length<200:=by decide +kernel
theorem q13{room:Int}{t:qa}(h:(t.length:Int)<=room):∃d1 d2 d3:qc,(newD room).create fB=(.no,d1)∧d1.write fB t=(.no,d2)∧d2.sync fB=(.no,d3)∧d3.syncDir=(.no,oneD (3+t.length) room t (xz t)):=by
 have hb:=za9 h;unfold qys at hb;obtain⟨h3,e4⟩:=qr0 hb;obtain⟨h2,e3⟩:=qr0 (Qo h3 rfl:_=(ErrV.no,_));obtain⟨h1,e2⟩:=qr0 (Qo h2 rfl:_=(ErrV.no,_));exact⟨_,_,_,Qo h1 rfl,e2,e3,e4⟩
theorem q9b{N:Nat}{u room:Int}{t:qa}{a:List ActV}(h0:0<=u)(h1:u<=N)(h2:0<=room)(h3:room<=2199023255552)(h4:a.length<=N)(h5:t.length<=N)(h6:1<=N):(oneD u room t a).Bd N:=by
 refine⟨⟨λq hq=>?_,λm hm=>by simp at hm,Sx⟩,h0,h1,Sx,Sx,h2,h3,by simpa using h6,by simpa using h6,h4,λf hf=>?_,λq hq=>?_,λm hm=>by simp at hm⟩
 .simp only[Qg]at hq
  subst hq;simp
 .simp only[Qg]at hf
  subst hf;exact⟨Nat.zero_le _,by simpa[qbq]using h5,λw hw=>by simp at hw⟩
 .simp only[Qg]at hq
  subst hq;simp[fB]
end Go.Pl
namespace Go.Proofs.YthnbabbhpeebbaaGreatDoor
open Go Go.Av Go.RowKit Go.Proofs Go.Pl
theorem zh1{N:Nat}{room:Int}(h0:0<=room)(h1:room<=2199023255552):(newD room).Bd N:=by
 refine⟨⟨λq hq=>by simp[newD]at hq,λm hm=>by simp[newD]at hm,by simp[newD]⟩,by simp[newD],by simp[newD],by simp[newD],by simp[newD],h0,h1,by simp[newD],by simp[newD],by simp[newD],λf hf=>by simp[newD]at hf,λq hq=>by simp[newD]at hq,λm hm=>by simp[newD]at hm⟩
theorem qvx(room:Int)(text:qa)(h:(text.length:Int)<=room)(hr:room<=2199023255552)(hl:text.length<500000)(nx:Nat)(H:Nat->Option SR):qk6 E 8 [.i room,.s text] nx H λo:Nat=>⟨.a (.bx o 0 0),[],[(nx,some (.clu (qcn (oneD (3+text.length) room text (xz text)) o) []))],nx+1⟩:=by
 obtain⟨d1,d2,d3,e1,e2,e3,e4⟩:=q13 h;have h0:0<=room:=Om
 have r6:fB.length<1000000:=by decide
 have b0:(newD room).Bd 100000:=zh1 h0 hr;generalize oneD (3+text.length) room text (xz text)=X at *;have hn:=λnx H=>zhg room nx H h0;have c1:=λo=>qv3 (newD room) o fB (b0.mono Om) r6;have b1:=b0.create fB r6;rw[e1]at c1 b1;have c2:=λo=>qza d1 o fB text (b1.mono Om) r6 Om;have b2:=b1.write fB text;rw[e2]at c2 b2;have c3:=λo=>q3i d2 o fB (b2.mono Om) r6;have b3:=b2.sync fB;rw[e3]at c3 b3;have c4:=λo=>qmb d3 o (b3.mono Om);rw[e4]at c4;refine zf0 (r:=λo:Nat=>.a (.bx o 0 0)) (A:=λo=>qcn X o) nx H rfl (λ_=>rfl) (q7q [.i room,.s text] [] 0 (λo:Nat=>.a (.bx o 0 0)) (λo=>[(0,some (.clu (qcn X o) []))]) 1 Tryz.func8 rfl rfl rfl (λ_=>rfl) λS F ρ=>?_);apply jp;repeat' (first|apply Qb|(intro h;try exact cDd)|(refine qjv (id:=1) ?_)|(refine v6 [] ?_)|(refine ql6 rfl rfl rfl ⟨Tryz.call15⟩ _ (hn _ _) ?_;intro o)|(refine qol (locK ?_))|exact⟨Tryz.call28⟩|(refine Qa _ ⟨jm (q:=0) (c1 _) rfl rfl rfl rfl,?_⟩)|exact⟨Tryz.call29⟩|(refine Qa _ ⟨jm (q:=1) (c2 _) rfl rfl rfl rfl,?_⟩)|exact⟨Tryz.call30⟩|(refine Qa _ ⟨jm (q:=2) (c3 _) rfl rfl rfl rfl,?_⟩)|exact⟨Tryz.call31⟩|(refine Qa _ ⟨jm (q:=3) (c4 _) rfl rfl rfl rfl,?_⟩)|(refine Qa o ?_)|(refine entE [(0,4)] ?_)|exact cSd|apply qb []|refine exr ?_|refine qf ?_)
 all_goals first|assumption|rfl|omega|(simp;done)
end Go.Proofs.YthnbabbhpeebbaaGreatDoor
namespace Go.Pl
open Go Go.Av Go.Proofs Go.Proofs.YthnbabbhpeebbaaGreatDoor
theorem zcq(u room:Int)(t:qa)(a:List ActV):(oneD u room t a).free=max 0 (room-t.length):=by
 unfold qc.free;rw[qva];simp only[qgw,qc.at]
 show max 0 (room-(((⟨t,[]⟩:zj).seen.length:Int)+0))=_
 rw[q0k,Int.add_zero]
theorem q53(u room:Int)(t m:qa)(a:List ActV)(h:(m.length:Int)<=room-t.length):∃a',vw ((oneD u room t a).write fB m) (λd=>d.sync fB)=(.no,oneD (u+m.length+1) room (t++m) a')∧a'.length<=a.length+2:=by
 have e2:(oneD u room t a).write fB m=(.no,⟨u+m.length,0,false,false,room,[⟨t,if m=[]then []else [⟨m,0,false⟩]⟩],[(fB,0)],[],a++(if m=[]then []else [⟨2,fB,[],m,0⟩])⟩):=by
  unfold qc.write;rw[qrj,zcq];have h1:¬max 0 (room-(t.length:Int))<(m.length:Int):=Om
  simp only[ne_eq,not_true_eq_false,if_false,h1];by_cases h0:m=[]
  .subst h0
   simp[qc.spend]
  .have hp:0<m.length:=Qj.2 h0
   simp[qc.spend,qc.at,qc.with,qc.did,h0,hp]
 have hb:(if m=[]then []else [⟨2,fB,[],m,0⟩]:List ActV).length<=1:=by split <;>simp
 generalize(if m=[]then []else [⟨2,fB,[],m,0⟩]:List ActV)=b at e2 hb
 have hs:(⟨t,if m=[]then []else [⟨m,0,false⟩]⟩:zj).seen=t++m:=by
  by_cases h0:m=[]
  .subst h0
   rw[if_pos rfl,q0k,Qn]
  .rw[if_neg h0]
   show(if 0<(m.length:Int)then t++m.take (m.length:Int).toNat else t)=t++m
   have hp:0<m.length:=Qj.2 h0;rw[if_pos Om];simp
 have hf:(⟨u+m.length,0,false,false,room,[⟨t,if m=[]then []else [⟨m,0,false⟩]⟩],[(fB,0)],[],a++b⟩:qc).file fB=(.no,0):=by
  have hd:(⟨u+m.length,0,false,false,room,[⟨t,if m=[]then []else [⟨m,0,false⟩]⟩],[(fB,0)],[],a++b⟩:qc).dir=[(fB,0)]:=rfl;unfold qc.file qc.asked;rw[hd];simp[qlj,hasM,getM]
 unfold vw;rw[e2,if_pos rfl];simp only;unfold qc.sync;rw[hf];generalize(if m=[]then []else [⟨m,0,false⟩]:List kz)=w at *;refine⟨a++b++[⟨4,fB,[],[],0⟩],?_,So⟩;simp only[qc.spend,qc.at,qc.with,qc.did];simp[hs]
end Go.Pl
namespace Go.Proofs.YthnbabbhpeebbaaGreatDoor
open Go Go.Av Go.RowKit Go.Proofs Go.Pl
theorem q64(st:List AObj):qm E 7 [] st λr st'=>r=Bv true∧st'=st:=by
 have hbg:=qvx 1000 xq (by decide) (by decide) (by decide);obtain⟨q1,q2,q3⟩:=zeh;have rq:=qmv (3+xq.length) 1000 xq (xz xq);rw[if_neg (by simp[q1]),if_neg (by rw[q2];simp),q3]at rq;have bd:=q9b (N:=100000) (u:=3+xq.length) (room:=1000) (t:=xq) (a:=xz xq) (by decide) (by decide) (by decide) (by decide) (by decide) (by decide) (by decide);have ho:=λo=>(qu3 (oneD (3+xq.length) 1000 xq (xz xq)) o fB (bd.mono Om) (by decide)).1 (by rw[rq]);have b1:=q0m bd fB (by decide);have hread:=qrk (3+xq.length+1+1) 1000 xt (xz xq++[⟨3,fB,[],[],ka (zg xq).2.1⟩]++[⟨4,fB,[],[],0⟩]);rw[rq]at ho b1;simp only at ho b1;generalize oneD (3+xq.length) 1000 xq (xz xq)=d0 at *;generalize o0:oneD (3+xq.length+1+1) 1000 xt (xz xq++[⟨3,fB,[],[],ka (zg xq).2.1⟩]++[⟨4,fB,[],[],0⟩])=d1 at *;have gn:=λo=>quz d1 o fB (b1.mono Om) (by decide);rw[hread]at gn;obtain⟨r1,r2,r3⟩:=zeg;have r7:qfy d1 fB xt=.no:=by unfold qfy;rw[hread];simp
 have px:xt.length<=(xa xt qbz).2.length:=by have:xt.length=5:=rfl;omega
 have hap:=λo=>q8c o fB xt d1 qbz (b1.mono Om) (by decide) (by decide) (by simp[qbz];exact⟨by simp[KeyB],Sx,Sx,Sx⟩) (by decide) (λ_=>⟨px,Om⟩)
 have hax:(qdy d1 fB xt qbz).1=.no∧(qdy d1 fB xt qbz).2.1=(xa xt qbz).2:=by
  unfold qdy;rw[if_neg (by simp[r7]),if_neg (by simp[r1])];obtain⟨a',g1,g2⟩:=q53 (3+xq.length+1+1) 1000 xt ((xa xt qbz).2.drop xt.length) (xz xq++[⟨3,fB,[],[],ka (zg xq).2.1⟩]++[⟨4,fB,[],[],0⟩]) (by rw[Ql];have:xt.length=5:=rfl;omega);rw[o0]at g1;simp only[g1,ne_eq,not_true_eq_false,if_false];exact⟨trivial,trivial⟩
 have hap:∀o,qfq o fB xt d1 qbz .no (xa xt qbz).2 (qdy d1 fB xt qbz).2.2:=λo=>by
  have:=hap o;rw[hax.1,hax.2]at this;exact this
 generalize(qdy d1 fB xt qbz).2.2=d2 at *;have r4:(30:Int)<((xa xt qbz).2.length:Int):=Om
 clear r2 r3;generalize(xa xt qbz).2=s at *;clear hax px r7 r1 hread bd b1 rq q1 q2 q3 o0;unfold qi5 at ho;unfold qfq at hap;have htx:=λo t=>q3q o fB t;refine ja [] (qw _) Tryz.func7 rfl rfl (λ_=>rfl) rfl λS0=>?_;apply jp;repeat' (first|apply Qb|(intro h;try exact cDd)|(refine qjv (id:=1) ?_)|(refine v6 [] ?_)|(refine ql6 rfl rfl rfl ⟨Tryz.call8⟩ _ (hbg _ _) ?_;intro o)|(refine qol (locK ?_))|exact⟨Tryz.call9⟩|(refine qcy [(0,0)] (ho o) ?_)|exact⟨Tryz.call36⟩|(refine Qa _ ⟨jm (q:=1) (gn o) rfl rfl rfl rfl,?_⟩)|exact⟨Tryz.call11⟩|(refine Qa _ ⟨qy1 (htx o xt) rfl rfl rfl rfl,?_⟩)|(refine Qa _ ⟨qy1 (htx o s) rfl rfl rfl rfl,?_⟩)|exact⟨Tryz.call19⟩|(refine qcy [(0,2),(1,3)] (hap o) ?_)|exact cSd|apply qb []|refine exr ?_|refine qf ?_)
 all_goals first|exact congrArg Bv (decide_eq_true r4)|assumption|rfl|omega|(simp;done)
@[reducible] def cutA (u k : Int) (data : List Int) : AV := .ag [Iv u, Iv k, qa2 data]
set_option maxHeartbeats 20000000 in
theorem zef(text:qa)(u k:Int)(data:List Int)(st:List AObj)(hdt:∀x∈data,x<9223372036854775808):qm E 3 [Sv text,cutA u k data] st λr st'=>r=Bv true∧st'=st:=by
 refine ja [.s text,.a (cutA u k data)] (qw _) Tryz.func3 rfl rfl (λ_=>rfl) rfl λS0=>?_;have hal:=q64;have hdl:(data.map λx=>Iv x).length=data.length:=Sx
 by_cases h4:4000<text.length
 .apply qd []
  repeat' (first|apply Qb|(intro h;try exact cDd)|exact⟨Tryz.call7⟩|refine cpe hal ?_|exact cSd|apply qb []|refine exr ?_|refine qf ?_)
 by_cases h40:40<data.length
 .apply qd []
  repeat' (first|apply Qb|(intro h;try exact cDd)|exact⟨Tryz.call7⟩|refine cpe hal ?_|exact cSd|apply qb []|refine exr ?_|refine qf ?_)
  all_goals first|assumption|rfl|omega|(simp;done)
 have hbg:=qvx 1073741824 text Om (by decide) Om;have bd:=q9b (N:=100000) (u:=3+text.length) (room:=1073741824) (t:=text) (a:=xz text) Om Om (by decide) (by decide) (by unfold xz;split <;>simp) Om (by decide);have hfo:=λo=>qu3 (oneD (3+text.length) 1073741824 text (xz text)) o fB (bd.mono Om) (by decide);have b1:=q0m bd fB (by decide);by_cases hr:(zg text).1=.no
 .obtain⟨u',a',e1,g1,g2,g3⟩:=q9d hr (3+text.length) 1073741824 (xz text)
  have e2:=q9a hr u' 1073741824 a'
  have hw:(js (zg text).2.1).length<=text.length∧text.take (js (zg text).2.1).length=js (zg text).2.1:=by
   obtain⟨b,r,hT,hp,he⟩:=qed hr;rw[he];have h1:=hT.split;generalize js b=w at *;generalize b.tail=tl at *;subst h1;simp
  have gn:=qrk u' 1073741824 (js (zg text).2.1) a';have hcr:=q9c u' 1073741824 (js (zg text).2.1) a' k data;rw[e1]at b1 hfo;generalize js (zg text).2.1=w at *;generalize oneD (3+text.length) 1073741824 text (xz text)=d0 at *;generalize oneD u' 1073741824 w a'=d1 at *;simp only at b1;have ho1:=λo=>(hfo o).1 rfl;have dw:=λo=>(qu3 d1 o fB (b1.mono Om) (by decide)).1 (by rw[e2]);rw[e2]at dw;simp only at ho1 dw;have hac:=λo=>ze3 d1 o (b1.mono Om);have r7:=λo=>qzh o fB w d1 (b1.mono Om) (by decide);have hck0:qfy d1 fB w=.no:=by unfold qfy;rw[gn];simp
  rw[hck0]at r7;have hcs:=λo=>zbh d1 o k data (b1.mono Om) Om hdt;rw[hcr]at hcs;have htx:=λo=>q3q o fB w;unfold qi5 at ho1 dw;clear hfo e1 e2 g1 g2 g3 gn hcr hck0 hr b1 bd;obtain⟨hw1,hw2⟩:=hw;have hal2:(d1.acts.map actA).length=d1.acts.length:=Sx
  apply jp;repeat' (first|apply Qb|(intro h;try exact cDd)|exact⟨Tryz.call7⟩|refine cpe hal ?_|(refine qjv (id:=5) ?_)|(refine v6 [] ?_)|(refine ql6 rfl rfl rfl ⟨Tryz.call8⟩ _ (hbg _ _) ?_;intro o)|(refine qol (locK ?_))|exact⟨Tryz.call9⟩|(refine qpd 0 [(0,0)] (ho1 o) rfl ?_)|(refine qpd 3 [(0,3)] (dw o) rfl ?_)|(refine qpd 9 [(0,9)] (dw o) rfl ?_)|exact⟨Tryz.call10⟩|(refine Qa _ ⟨jm (q:=1) (hac o) rfl rfl rfl rfl,?_⟩)|(refine Qa _ ⟨jm (q:=4) (hac o) rfl rfl rfl rfl,?_⟩)|(refine Qa _ ⟨jm (q:=10) (hac o) rfl rfl rfl rfl,?_⟩)|exact⟨Tryz.call11⟩|(refine Qa _ ⟨qy1 (htx o) rfl rfl rfl rfl,?_⟩)|exact⟨Tryz.call12⟩|(refine qpd 6 [(0,5),(1,6)] (r7 o) rfl ?_)|(refine qpd 7 [(0,2),(1,7)] (r7 o) rfl ?_)|exact⟨Tryz.call13⟩|(refine Qa _ ⟨jm (q:=8) (hcs o) rfl rfl rfl rfl,?_⟩)|(refine Qa w.length ⟨rfl,?_⟩)|exact cSd|apply qb []|refine exr ?_|refine qf ?_)
  all_goals first|exact congrArg Bv (decide_eq_true hw2)|assumption|rfl|omega|(simp;done)
 .have rq:=qmv (3+text.length) 1073741824 text (xz text)
  rw[if_pos (by simpa using hr)]at rq;have ho:=λo=>(hfo o).2 (by rw[rq];exact hr);rw[rq]at ho;simp only at ho;obtain⟨T,y,hy⟩:=qab hr;unfold qdh at ho;rw[hy]at ho;generalize oneD (3+text.length) 1073741824 text (xz text)=d0 at *;apply jp;repeat' (first|apply Qb|(intro h;try exact cDd)|exact⟨Tryz.call7⟩|refine cpe hal ?_|(refine qjv (id:=5) ?_)|(refine v6 [] ?_)|(refine ql6 rfl rfl rfl ⟨Tryz.call8⟩ _ (hbg _ _) ?_;intro o)|(refine qol (locK ?_))|exact⟨Tryz.call9⟩|(refine qpd 0 [(0,0)] (ho o) rfl ?_)|exact cSd|apply qb []|refine exr ?_|refine qf ?_)
  all_goals first|assumption|rfl|omega|(simp;done)
end Go.Proofs.YthnbabbhpeebbaaGreatDoor
namespace Go.Pl
structure CutV where
 units:Int
 dir:Int
 keep:List Int
end Go.Pl
namespace Go.Proofs.YthnbabbhpeebbaaGreatDoor
open Go Go.Av Go.RowKit Go.WideShapes Go.ChangeShapes Go.Deep Go.Proofs Go.Pl
def CutI(c:CutV):Prop:=(-9223372036854775808<=c.units∧c.units<=9223372036854775807)∧(-9223372036854775808<=c.dir∧c.dir<=9223372036854775807)∧∀x∈c.keep,-9223372036854775808<=x∧x<=9223372036854775807
theorem zf5:Opn Tryz.prog 24 λa=>∃c:CutV,a=cutA c.units c.dir c.keep∧CutI c:=by
 intro H enc W fuel cs x h
 obtain⟨a,⟨vs,rfl,hl,hv⟩,hr⟩:=q55 (As:=[(some (.int .i64),IsI .i64),(some (.int .i64),IsI .i64),(some (.slice 3),IsSl 1 (IsI .i64))]) Kr Kr Kr Kr
  (Qe.2 ⟨⟨λ_ h=>q56 h,zd6 _⟩,Qe.2 ⟨⟨λ_ h=>q56 h,zd6 _⟩,Qe.2 ⟨⟨λ_ h=>zic h Kr (by decide) (q56 Kr),zia _ _⟩,nofun⟩⟩⟩) H enc W fuel cs x h
 match vs,hl with
 | [v0,v1,v2],_=>
  obtain⟨n0,rfl,w0⟩:=hv 0 _ _ rfl rfl;obtain⟨n1,rfl,w1⟩:=hv 1 _ _ rfl rfl;obtain⟨_,rfl,m2,w2⟩:=hv 2 _ _ rfl rfl;obtain⟨x2,rfl,q2⟩:=qx7 w2;exact⟨_,⟨⟨n0,n1,x2⟩,rfl,lit_i64 w0,lit_i64 w1,λx hx=>lit_i64 (q2 x hx)⟩,hr⟩
theorem zgz:∀a,(∃c:CutV,a=cutA c.units c.dir c.keep∧CutI c)->∃us,a=.ag us:=by
 rintro _ ⟨r,rfl,_⟩;exact⟨_,rfl⟩
theorem zee(text:qa)(c:CutV)(hc:CutI c)(st:List AObj):qm E 3 [Sv text,cutA c.units c.dir c.keep] st λx st'=>x=Bv true∧st'=st:=zef text c.units c.dir c.keep st λx hx=>by have:=hc.2.2 x hx;omega
end Go.Proofs.YthnbabbhpeebbaaGreatDoor
namespace Go.Pl
open Go Go.Av Go.Proofs Go.Proofs.YthnbabbhpeebbaaGreatDoor
def LetN(n:Nat):Prop:=(97<=n∧n<=122)∨(48<=n∧n<=57)∨n=46
instance (n:Nat):Decidable (LetN n):=by unfold LetN;infer_instance
def newN:qa:=[102,46,110,101,119]
def qhd(s:qa):List kz:=if s=[]then []else [⟨s,0,false⟩]
end Go.Pl
