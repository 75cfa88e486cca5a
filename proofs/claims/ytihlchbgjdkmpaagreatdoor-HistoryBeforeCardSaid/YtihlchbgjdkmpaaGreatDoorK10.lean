/- Contracts and plain facts that the closing text leans on (part 10). No condition of their own beyond those that each states. -/
import Derived.Test.YtihlchbgjdkmpaaGreatDoorK9
set_option maxRecDepth 100000
set_option linter.unusedVariables false
set_option linter.unusedSimpArgs false
namespace Go.Pl
open Go Go.Proofs Go.Proofs.YtihlchbgjdkmpaaGreatDoor
theorem before_book {text:qa} {b:jp} (h:vu text b) (n:Nat):vu (qbk b n) ⟨b.gen,b.base,b.batches.take n,x8 ((vp b.gen).length+b.base.length) (b.batches.take n),[]⟩:=by
 have hl:=h.len;have hp:=congrArg List.length (q32 h n);simp only [List.length_append] at hp
 have:=h.other (bs:=b.batches.take n) (t:=[]) (fun x hx=>h.good x (List.mem_of_mem_take hx)) (by rw [zbr]) (by
  unfold qbk at hp;simp at hp ⊢
  omega)
 have e:vp b.gen++(b.base++(kl (b.batches.take n)++[]))=qbk b n:=by simp [qbk]
 rw [e] at this;exact this
def beforeH (text:qa) (n:Int):ErrV×qa:=
 if (jn text).1 = .no then (if n<0∨((jn text).2.1.batches.length:Int)<n then (.num 7,[]) else (.no,qbk (jn text).2.1 n.toNat)) else ((jn text).1,[])
theorem before_text {text:qa} {b:jp} {r:RunV} {n:Nat} (hT:vu text b) (hp:jf b.base b.batches=(.no,r)):∃ rn,jf b.base (b.batches.take n)=(.no,rn)∧jn (qbk b n)=(.no,⟨b.gen,b.base,b.batches.take n,x8 ((vp b.gen).length+b.base.length) (b.batches.take n),[]⟩,rn.l):=by
 have h:=hp;rw [← List.take_append_drop n b.batches] at h;obtain⟨rn,h1,_⟩:=q8f h;exact⟨rn,h1,qgj (before_book hT n) h1⟩
end Go.Pl
namespace Go.Proofs.YtihlchbgjdkmpaaGreatDoor
open Go Go.Av Go.RowKit Go.Proofs Go.Pl
theorem hbefore_c (text:qa) (n:Int) (st:List AObj) (hl:text.length<1000000):qn E 21 [Sv text,Iv n] st fun r st'=>r = .tu [Sv (beforeH text n).2,errA (beforeH text n).1]∧st'=st:=by
 refine zx [.s text,.i n] (kc (qt _) (jx _)) Tryz.func21 rfl rfl (fun _=>rfl) rfl fun S0=>?_;have bn:=fun st=>q2k text st hl;by_cases hr:(jn text).1 = .no
 ·obtain⟨b,r,hT,hp,he⟩:=qe6 hr
  have hB:=qcs hT;rw [qp6 hT hp] at bn;dsimp only at bn;have o7:(b.batches.map zo).length=b.batches.length:=by simp
  generalize r.given=g at bn;by_cases hn:n<0∨(b.batches.length:Int)<n
  ·have hu:beforeH text n=(.num 7,[]):=by
    unfold beforeH;rw [he];exact (if_pos rfl).trans (if_pos hn)
   rw [hu];apply qd [];repeat' (first|apply And.intro|(intro h;try exact cDd)|exact⟨Tryz.call41⟩|refine cpe bn ?_|exact cSd|apply qb []|refine exr ?_|refine qi ?_)
  ·obtain⟨k,rfl⟩:∃ k:Nat,n=(k:Int):=⟨n.toNat,by omega⟩
   have hu:beforeH text k=(.no,qbk b k):=by
    unfold beforeH;rw [he];exact (if_pos rfl).trans ((if_neg hn).trans (by simp))
   rw [hu];have d8:=fun st=>q7l b st hB hT
   have e9:((qdn b).map fun x=>Iv x)[k]? = some (Iv ((qbk b k).length:Nat)):=by
    rw [List.getElem?_map,qmd hT (by omega)];rfl
   have hbt:text.take (qbk b k).length=qbk b k:=q0x hT k
   have d6:(qbk b k).length≤text.length:=by
    have:=congrArg List.length hbt;rw [List.length_take] at this;omega
   rw [← hbt];generalize (qbk b k).length=m at e9 d6;apply qd [];repeat' (first|apply And.intro|(intro h;try exact cDd)|exact⟨Tryz.call41⟩|refine cpe bn ?_|exact⟨Tryz.call47⟩|refine cpe d8 ?_|(refine Exists.intro (k) ⟨by omega,_,e9,?_⟩)|exact cSd|apply qb []|refine exr ?_|refine qi ?_)
 ·have hu:beforeH text n=((jn text).1,[]):=by unfold beforeH;exact if_neg hr
  rw [hu];unfold qge at bn;rw [if_neg hr] at bn;generalize (jn text).1=e at bn hr
  cases e with
  |no=>exact absurd rfl hr
  |num m=>
   apply qd []
   repeat' (first|apply And.intro|(intro h;try exact cDd)|exact⟨Tryz.call41⟩|refine cpe bn ?_|exact cSd|apply qb []|refine exr ?_|refine qi ?_)
  |at' a m=>
   apply qd [];repeat' (first|apply And.intro|(intro h;try exact cDd)|exact⟨Tryz.call41⟩|refine cpe bn ?_|exact cSd|apply qb []|refine exr ?_|refine qi ?_)
set_option maxHeartbeats 4000000 in
theorem before_c (text:qa) (st:List AObj):qn E 5 [Sv text] st fun r st'=>r=Bv true∧st'=st:=by
 refine zx [.s text] (qt _) Tryz.func5 rfl rfl (fun _=>rfl) rfl fun S0=>?_;have hal:=q51;by_cases h4:4000<text.length
 ·apply qd []
  repeat' (first|apply And.intro|(intro h;try exact cDd)|exact⟨Tryz.call8⟩|refine cpe hal ?_|exact cSd|apply qb []|refine exr ?_|refine qi ?_)
 have nq:=fun st=>qkj text st (by omega);by_cases hr:(jn text).1 = .no
 case neg=>
  unfold qnt at nq;generalize jn text=q at nq hr;obtain⟨e,b,l⟩:=q
  cases e
  case no=>exact absurd rfl hr
  all_goals
   apply qd [];repeat' (first|apply And.intro|(intro h;try exact cDd)|exact⟨Tryz.call8⟩|refine cpe hal ?_|exact⟨Tryz.call9⟩|refine cpe nq ?_|exact cSd|apply qb []|refine exr ?_|refine qi ?_)
 obtain⟨b,r,hT,hp,he⟩:=qe6 hr;have hrt':=nq;rw [he] at nq;replace nq:∀ st,qn E 9 [Sv text] st fun q st'=>q = .tu [qaj b,kf r.l,errA .no]∧st'=st:=nq;have hB:=qcs hT;have hS:=q01 hT;have o7:(b.batches.map zo).length=b.batches.length:=by simp
 have gf:=hB.len;have hwb:=fun st=>q96 b st hS.base hS.ends;have hw0:=hS.whole;have hwt:yf b=qbk b b.batches.length:=by unfold yf qbk;rw [List.take_length]
 rw [hw0,hwt] at hwb;generalize r.l=l0 at nq;apply qd [];repeat' (first|apply And.intro|(intro h;try exact cDd)|exact⟨Tryz.call8⟩|refine cpe hal ?_|exact⟨Tryz.call9⟩|refine cpe nq ?_|exact cSd|apply qb []|refine exr ?_|refine qi ?_)
 refine w7 (X:=Nat) (fun k=>⟨[(0,.s text),(3,.bx 0 0),(29,.i ((b.batches.length:Int)+1)),(30,.i k)],[(0,some (.cells 26 [.i b.gen,.s b.base,.a (qbx b.batches),.a (yw b.ends),.s b.tail]))],1⟩) (fun k=>k≤b.batches.length+1) (fun k=>b.batches.length+1 - k) 0 (by omega) ?_ ?_
 ·skip
  repeat' (first|apply And.intro|(intro h;try exact cDd)|exact cSd|apply qb []|refine exr ?_|refine qi ?_)
  all_goals first|rfl|(simp;done)
 ·rintro k hk
  by_cases i6:k≤b.batches.length
  ·obtain⟨rn,g1,g2⟩:=before_text (n:=k) hT hp
   have hu:beforeH text k=(.no,qbk b k):=by
    unfold beforeH;rw [he];exact (if_pos rfl).trans ((if_neg (show ¬((k:Int)<0∨(b.batches.length:Int)<k) by omega)).trans (by simp))
   have hbf:=fun st=>hbefore_c text k st (by omega);rw [hu] at hbf;replace hbf:∀ st,qn E 21 [Sv text,Iv k] st fun r st'=>r = .tu [Sv (qbk b k),errA .no]∧st'=st:=hbf;have s7:=fun st=>qnq b (k:Nat) st hB
   have hbh:yt b (k:Nat)=(.no,rn):=by
    unfold yt;rw [if_neg (by omega)];simp only [Int.toNat_natCast];exact g1
   rw [hbh] at s7;replace s7:∀ st,qn E 10 [qaj b,Iv ((k:Nat):Int)] st fun r st'=>r = .tu [kf rn.l,errA .no]∧st'=st:=s7;have hbt:text.take (qbk b k).length=qbk b k:=q0x hT k
   have d6:(qbk b k).length≤text.length:=by
    have:=congrArg List.length hbt;rw [List.length_take] at this;omega
   have hrs:=fun st=>qkj (qbk b k) st (by omega);obtain⟨pg,hli⟩:=qsw (qbk b k);rw [g2] at hrs pg hli;dsimp only at pg hli;have bt:(b.batches.take k).length=k:=by simp;omega
   have hmk:((b.batches.take k).map zo).length=k:=by rw [List.length_map,bt]
   have htx:=fun st=>zed rn.l st (q2p pg hli) (q0g pg hli);replace hrs:∀ st,qn E 9 [Sv (qbk b k)] st fun q st'=>q = .tu [.ag [Iv b.gen,Sv b.base,qbx (b.batches.take k),yw (x8 ((vp b.gen).length+b.base.length) (b.batches.take k)),Sv []],kf rn.l,errA .no]∧st'=st:=hrs;generalize qok rn.l=tl at htx;generalize rn.l=ll at *;generalize x8 ((vp b.gen).length+b.base.length) (b.batches.take k)=ee at hrs;have hkw:k=b.batches.length→(qbk b k).length=(qbk b b.batches.length).length:=fun h=>by rw [h]
   generalize b.batches.take k=bk at *;generalize (qbk b b.batches.length).length=w at *;generalize qbk b k=s at *;apply qd [];repeat' (first|apply And.intro|(intro h;try exact cDd)|exact⟨Tryz.call21⟩|refine cpe hbf ?_|exact⟨Tryz.call10⟩|refine cpe s7 ?_|exact⟨Tryz.call9⟩|refine cpe hrs ?_|exact⟨Tryz.call23⟩|refine cpe htx ?_|exact⟨Tryz.call24⟩|refine cpe hwb ?_|(refine Exists.intro s.length ⟨by omega,?_⟩)|(refine Exists.intro (k+1) ⟨by omega,by omega,?_⟩)|exact cSd|apply qb []|refine exr ?_|refine qi ?_)
   all_goals first|rfl|assumption|omega|(exfalso;omega)|exact absurd hbt (by assumption)|(exfalso;have:=hkw (by omega);omega)
  ·have i6:k=b.batches.length+1:=by omega
   subst i6;apply qd [];repeat' (first|apply And.intro|(intro h;try exact cDd)|exact cSd|apply qb []|refine exr ?_|refine qi ?_)
   all_goals first|rfl|omega
end Go.Proofs.YtihlchbgjdkmpaaGreatDoor
