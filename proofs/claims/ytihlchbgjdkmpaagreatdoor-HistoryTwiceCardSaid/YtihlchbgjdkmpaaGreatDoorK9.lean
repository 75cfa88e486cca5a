/- Contracts and plain facts that the closing text leans on (part 9). No condition of their own beyond those that each states. -/
import Derived.Test.YtihlchbgjdkmpaaGreatDoorK8
set_option maxRecDepth 100000
set_option linter.unusedVariables false
set_option linter.unusedSimpArgs false
namespace Go.Pl
open Go Go.Proofs Go.Proofs.YtihlchbgjdkmpaaGreatDoor
def qge (text:qa):ErrV×jp×List (List Int):=if (jn text).1 = .no then (.no,(jn text).2.1,(runT text).given) else ((jn text).1,qev,[])
theorem qp6 {text:qa} {b:jp} {r:RunV} (hT:vu text b) (hp:jf b.base b.batches=(.no,r)):qge text=(.no,b,r.given):=by
 unfold qge;rw [qgj hT hp,q25 hT hp];exact if_pos rfl
theorem qqb {b:jp} {bs:List (List ql)} {x:List ql} {r1:RunV} (hB:BkB b) (hb:b.batches=bs++[x]) (h1:jf b.base bs=(.no,r1)):GN r1.l∧GL r1.l∧LB 860000 r1.l∧LM r1.l∧LI r1.l∧yt b (bs.length:Nat)=(.no,r1):=by
 have hp:=qj1 h1;have hn:GN r1.l:=by have:=qzr b.base bs;rw [h1] at this;exact this
 have hl:GL r1.l:=by have:=qzq b.base bs hp;rw [h1] at this;exact this
 have d5:bs.length≤14000:=by have:=hB.len;rw [hb,List.length_append] at this;omega
 have ho:=qfn b.base bs d5;rw [h1] at ho;refine⟨hn,hl,ho.1,ho.2.1,ho.2.2,?_⟩;have ht:b.batches.take bs.length=bs:=by rw [hb];simp
 unfold yt;rw [if_neg (by rw [hb];simp;omega)];simp only [Int.toNat_natCast];rw [ht,h1]
theorem zch {text:qa} (h:(qal text).1 = .no):(∀ y∈(qal text).2,EdB y)∧(qal text).2.length≤5000∧∀ y∈(qal text).2,y.fields.length≤40:=by
 have hr:(jn text).1 = .no:=by
  by_cases hr:(jn text).1 = .no
  ·exact hr
  ·unfold qal at h
   rw [if_neg hr] at h;exact absurd h hr
 obtain⟨b,r,hT,hp,he⟩:=qe6 hr;have hB:=qcs hT;by_cases hb:b.batches=[]
 ·unfold qal at h
  rw [he] at h;simp only [hb] at h;exact absurd h (by simp)
 ·have fj:b.batches=b.batches.dropLast++[b.batches.getLast hb]:=(List.dropLast_concat_getLast hb).symm
  generalize b.batches.dropLast=bs at fj;generalize b.batches.getLast hb=x at fj;obtain⟨r1,h1,h2,h3,h4⟩:=qiq hT fj hp;obtain⟨hn,hl,pg,_⟩:=qqb hB fj h1;rw [h4];have hs:=qls h1 h2;have hx:=(qfn b.base (bs++[x]) (by rw [← fj];exact hB.len)).1.nx1;rw [hs] at hx;simp only at hx;refine⟨q6f hn hl h2 (by have:(y6 r1 x).l=(doF r1.l x).2.1:=rfl;rw [← this];omega),?_,fun y hy=>(qho ((qc8 (q3d hn hl h2).1).2.2 y hy)).1⟩;obtain⟨g1,g2,g3⟩:=qqu h2
  show (vv r1.l x).length≤5000
  unfold vv;rw [qku,List.length_reverse,qgn];have:=(hB.bat x (by rw [fj];simp)).2;omega
end Go.Pl
namespace Go.Proofs.YtihlchbgjdkmpaaGreatDoor
open Go Go.Av Go.RowKit Go.Proofs Go.Pl
theorem q2k (text:qa) (st:List AObj) (hl:text.length<1000000):qn E 41 [Sv text] st fun r st'=>r = .tu [qaj (qge text).2.1,qm5 (qge text).2.2,errA (qge text).1]∧st'=st:=by
 refine zx [.s text] (qij (qg6 _) (qjt _) (jx _)) Tryz.func41 rfl rfl (fun _=>rfl) rfl fun S0=>?_;have ht:=fun st=>qkj text st hl;by_cases hr:(jn text).1 = .no
 ·obtain⟨b,r,hT,hp,he⟩:=qe6 hr
  have hg:=fun st=>zb1 b st (qcs hT);rw [qp6 hT hp];rw [he] at ht;rw [hp,if_pos rfl] at hg;generalize r.l=l at ht;generalize r.given=g at hg;apply qd [];repeat' (first|apply And.intro|(intro h;try exact cDd)|exact⟨Tryz.call9⟩|refine cpe ht ?_|exact⟨Tryz.call69⟩|refine cpe hg ?_|exact cSd|apply qb []|refine exr ?_|refine qi ?_)
 ·unfold qge
  rw [if_neg hr];generalize jn text=q at ht hr;obtain⟨e,b,l⟩:=q
  cases e with
  |no=>exact absurd rfl hr
  |num m=>
   apply qd []
   repeat' (first|apply And.intro|(intro h;try exact cDd)|exact⟨Tryz.call9⟩|refine cpe ht ?_|exact cSd|apply qb []|refine exr ?_|refine qi ?_)
  |at' a m=>
   apply qd [];repeat' (first|apply And.intro|(intro h;try exact cDd)|exact⟨Tryz.call9⟩|refine cpe ht ?_|exact cSd|apply qb []|refine exr ?_|refine qi ?_)
theorem zd1 (text:qa) (st:List AObj) (hl:text.length<1000000):qn E 15 [Sv text] st fun r st'=>r = .tu [zo (qal text).2,errA (qal text).1]∧st'=st:=by
 refine zx [.s text] (kc (qds _) (jx _)) Tryz.func15 rfl rfl (fun _=>rfl) rfl fun S0=>?_;have bn:=fun st=>q2k text st hl;by_cases hr:(jn text).1 = .no
 ·obtain⟨b,r,hT,hp,he⟩:=qe6 hr
  have hB:=qcs hT;rw [qp6 hT hp] at bn;dsimp only at bn;by_cases hb:b.batches=[]
  ·have hu:qal text=(.num 7,[]):=by
    unfold qal;rw [he];simp only [hb];rfl
   rw [hu];have o7:(b.batches.map zo).length=0:=by rw [hb];rfl
   generalize r.given=g at bn;apply qd [];repeat' (first|apply And.intro|(intro h;try exact cDd)|exact⟨Tryz.call41⟩|refine cpe bn ?_|exact cSd|apply qb []|refine exr ?_|refine qi ?_)
  ·have fj:b.batches=b.batches.dropLast++[b.batches.getLast hb]:=(List.dropLast_concat_getLast hb).symm
   generalize b.batches.dropLast=bs at fj;generalize b.batches.getLast hb=x at fj;obtain⟨r1,h1,h2,h3,h4⟩:=qiq hT fj hp;obtain⟨hn,tg,pg,hlm,hli,hbh⟩:=qqb hB fj h1;have o7:(b.batches.map zo).length=bs.length+1:=by rw [fj];simp
   have hix:(b.batches.map zo)[bs.length]? = some (zo x):=by rw [fj];simp
   have hBx:=(hB.bat x (by rw [fj];simp)).1;have s7:=fun st=>qnq b (((b.batches.map zo).length:Nat) - 1:Int) st hB;rw [show yt b (((b.batches.map zo).length:Nat) - 1:Int)=(.no,r1) by rw [show (((b.batches.map zo).length:Nat) - 1:Int)=((bs.length:Nat):Int) by omega];exact hbh] at s7;have gf:=hB.len;have hbm:(b.batches.map zo).length=b.batches.length:=by simp
   have hba:=fun st=>zds r1.l x st pg hlm hli hn tg hBx.2 hBx.1;rw [if_pos h2,h2] at hba;rw [h4];generalize r.given=g at bn;generalize vv r1.l x=bk at hba;generalize r1.l=q at hba s7;apply qd [];repeat' (first|apply And.intro|(intro h;try exact cDd)|exact⟨Tryz.call41⟩|refine cpe bn ?_|exact⟨Tryz.call10⟩|refine cpe s7 ?_|(refine Exists.intro (bs.length) ⟨by omega,_,hix,?_⟩)|exact⟨Tryz.call42⟩|refine cpe hba ?_|exact cSd|apply qb []|refine exr ?_|refine qi ?_)
 ·have hu:qal text=((jn text).1,[]):=by unfold qal;exact if_neg hr
  rw [hu];unfold qge at bn;rw [if_neg hr] at bn;generalize (jn text).1=e at bn hr
  cases e with
  |no=>exact absurd rfl hr
  |num m=>
   apply qd []
   repeat' (first|apply And.intro|(intro h;try exact cDd)|exact⟨Tryz.call41⟩|refine cpe bn ?_|exact cSd|apply qb []|refine exr ?_|refine qi ?_)
  |at' a m=>
   apply qd [];repeat' (first|apply And.intro|(intro h;try exact cDd)|exact⟨Tryz.call41⟩|refine cpe bn ?_|exact cSd|apply qb []|refine exr ?_|refine qi ?_)
theorem qm8 (text:qa) (st:List AObj) (hl:text.length<1000000):qn E 11 [Sv text] st fun r st'=>r = .tu [Sv (kq text).2,errA (kq text).1]∧st'=st:=by
 refine zx [.s text] (kc (qt _) (jx _)) Tryz.func11 rfl rfl (fun _=>rfl) rfl fun S0=>?_;have hu:=fun st=>zd1 text st hl;unfold kq;have hok:=@zch text;generalize qal text=q at hu hok;obtain⟨e,x⟩:=q;dsimp only at hu hok ⊢
 cases e with
 |no=>
  obtain⟨g1,g2,_⟩:=hok rfl;have hap:=fun st=>q6g text x st hl g1 (by omega);rw [if_pos rfl];generalize Go.Pl.appF text x=p at *;obtain⟨e2,t⟩:=p
  cases e2
  all_goals
   apply qd []
   repeat' (first|apply And.intro|(intro h;try exact cDd)|exact⟨Tryz.call15⟩|refine cpe hu ?_|exact⟨Tryz.call34⟩|refine cpe hap ?_|exact cSd|apply qb []|refine exr ?_|refine qi ?_)
 |num m=>
  rw [if_neg (by simp)];apply qd []
  repeat' (first|apply And.intro|(intro h;try exact cDd)|exact⟨Tryz.call15⟩|refine cpe hu ?_|exact cSd|apply qb []|refine exr ?_|refine qi ?_)
 |at' a m=>
  rw [if_neg (by simp)];apply qd [];repeat' (first|apply And.intro|(intro h;try exact cDd)|exact⟨Tryz.call15⟩|refine cpe hu ?_|exact cSd|apply qb []|refine exr ?_|refine qi ?_)
end Go.Proofs.YtihlchbgjdkmpaaGreatDoor
namespace Go.Pl
open Go Go.Proofs Go.Av Go.Proofs.YtihlchbgjdkmpaaGreatDoor
@[reducible] def qh2 (e : qht) : AV := .ag [Iv e.rep, Iv e.del, Iv e.ins, Iv e.first, Iv e.last, Iv e.bytes]
@[reducible] def logA (l : List qht) : AV := .sl 6 (l.map qh2) none
theorem q7s (l:List qht):Pure (logA l):=qar fun x hx=>by
 obtain⟨e,_,rfl⟩:=List.mem_map.1 hx;intro y hy;simp only [AV.cells,List.mem_cons,List.not_mem_nil,or_false] at hy;rcases hy with rfl|rfl|rfl|rfl|rfl|rfl <;> exact qt _
theorem q06 (e:qht):Pure (qh2 e):=qcb fun y hy=>by
 simp only [AV.cells,List.mem_cons,List.not_mem_nil,or_false] at hy;rcases hy with rfl|rfl|rfl|rfl|rfl|rfl <;> exact qt _
def cnt1 (b:List ql):Nat:=b.countP fun x=>decide (x.kind=1)
def cnt2 (b:List ql):Nat:=b.countP fun x=>decide (x.kind=2)
def cnt3 (b:List ql):Nat:=b.countP fun x=> !decide (x.kind=1) && !decide (x.kind=2)
theorem q99 (b:List ql) (x:ql):cnt1 (b++[x])=cnt1 b+(if x.kind=1 then 1 else 0)∧cnt2 (b++[x])=cnt2 b+(if x.kind=2 then 1 else 0)∧cnt3 (b++[x])=cnt3 b+(if x.kind=1∨x.kind=2 then 0 else 1):=by
 unfold cnt1 cnt2 cnt3;simp only [List.countP_append,List.countP_cons,List.countP_nil,Nat.zero_add];by_cases h1:x.kind=1
 ·simp [h1]
 ·by_cases h2:x.kind=2
  ·simp [h1,h2]
  ·simp [h1,h2]
theorem zfj (b:List ql):cnt1 b≤b.length∧cnt2 b≤b.length∧cnt3 b≤b.length:=⟨List.countP_le_length,List.countP_le_length,List.countP_le_length⟩
theorem zdv (b:List ql) (g:List Int) (n:Int):entF b g n=⟨cnt1 b,cnt2 b,cnt3 b,g.headD 0,g.getLastD 0,n⟩:=rfl
theorem qvg:∀ (bs:List (List ql)) (gs:List (List Int)) (k:Nat) (x:List ql) (g:List Int),bs[k]? = some x→gs[k]? = some g→logL (bs.take (k+1)) (gs.take (k+1))=logL (bs.take k) (gs.take k)++[entF x g (recE x).length]
 | [],_,k,x,g,h,_=>by simp at h
 |y::bs,[],k,x,g,_,h=>by simp at h
 |y::bs,z::gs,0,x,g,h1,h2=>by
  simp only [List.getElem?_cons_zero,Option.some.injEq] at h1 h2;subst h1;subst h2
  rfl
 |y::bs,z::gs,k+1,x,g,h1,h2=>by
  simp only [List.getElem?_cons_succ] at h1 h2;simp only [List.take_succ_cons,logL];rw [qvg bs gs k x g h1 h2];rfl
theorem qrv:∀ (b:List ql) (k:Nat) (l:qq) (ids:List Int),(kw k b l ids).2.2.length≤ids.length+b.length
 | [],_,_,_=>Nat.le_refl _
 |x::r,k,l,ids=>by
  rw [kw];split
  ·refine Nat.le_trans (qrv r _ _ _) ?_
   split
   ·simp only [List.length_append,List.length_cons,List.length_nil];omega
   ·simp only [List.length_cons];omega
  ·simp only;omega
theorem zdo (l:qq) (b:List ql):(doF l b).2.2.length≤b.length:=by
 unfold doF;split
 ·have:=qrv b 0 l []
  simpa using this
 ·simp
theorem qnp {N:Nat}:∀ (bs:List (List ql)) (r r':RunV),zv bs r=(.no,r')→(∀ x∈bs,x.length≤N)→(∀ g∈r.given,g.length≤N)→∀ g∈r'.given,g.length≤N
 | [],r,r',h,_,hg=>by
  simp only [zv,Prod.mk.injEq,true_and] at h;subst h
  exact hg
 |x::q,r,r',h,hb,hg=>by
  unfold zv at h;split at h
  ·refine qnp q _ _ h (fun y hy=>hb y (by simp [hy])) fun g hm=>?_
   have hm:g∈r.given++[(doF r.l x).2.2]:=hm;rcases List.mem_append.1 hm with hm|hm
   ·exact hg g hm
   ·simp only [List.mem_cons,List.not_mem_nil,or_false] at hm
    subst hm;exact Nat.le_trans (zdo _ _) (hb x (by simp))
  ·simp at h
theorem q7d {b:jp} {r:RunV} (hp:jf b.base b.batches=(.no,r)) (hB:BkB b) {g:List Int} (hg:g∈r.given):g.length<1000000:=by
 unfold jf at hp;split at hp
 ·have:=qnp (N:=5000) b.batches _ r hp (fun x hx=>(hB.bat x hx).2) (by simp) g hg
  omega
 ·rename_i h
  simp only [Prod.mk.injEq] at hp;exact absurd hp.1 h
theorem q31 {b:jp} {k:Nat} {x:List ql} (h:b.batches[k]? = some x):(qbk b (k+1)).length=(qbk b k).length+(recE x).length:=by
 unfold qbk;rw [List.take_add_one,h];simp only [Option.toList_some,qlw,List.length_append];omega
theorem q5b {text:qa} {b:jp} (hT:vu text b) {k:Nat} {x:List ql} (h:b.batches[k]? = some x):(recE x).length≤120000:=by
 have h1:=q31 h;have h2:=congrArg List.length (q0x hT (k+1));rw [List.length_take] at h2;have:=hT.len;omega
end Go.Pl
namespace Go.Proofs.YtihlchbgjdkmpaaGreatDoor
open Go Go.Av Go.RowKit Go.Proofs Go.Pl
theorem zaw (b:List ql) (g:List Int) (n:Int) (st:List AObj) (hl:b.length<1000000) (hg:g.length<1000000):qn E 53 [zo b,yw g,Iv n] st fun r st'=>r=qh2 (entF b g n)∧st'=st:=by
 refine zx [.a (zo b),.a (yw g),.i n] (q06 _) Tryz.func53 rfl rfl (fun _=>rfl) rfl fun S0=>?_;rw [zdv];have o7:(b.map vw).length=b.length:=by simp
 apply qd [];repeat' (first|apply And.intro|(intro h;try exact cDd)|exact cSd|apply qb []|refine exr ?_|refine qi ?_)
 refine w7 (X:=Nat) (fun k=>⟨[(1,.a (yw g)),(6,.bx 0 0),(7,.bx 1 0),(13,.a (zo b)),(14,.i b.length),(15,.i k)],[(0,some (.cells 63 [.i 0,.i 0,.i 0,.i 0,.i 0,.i 0])),(1,some (.cells 63 [.i (cnt1 (b.take k)),.i (cnt2 (b.take k)),.i (cnt3 (b.take k)),.i 0,.i 0,.i n]))],2⟩) (fun k=>k≤b.length) (fun k=>b.length - k) 0 (by omega) ?_ ?_
 ·skip
  repeat' (first|apply And.intro|(intro h;try exact cDd)|exact cSd|apply qb []|refine exr ?_|refine qi ?_)
  all_goals first|rfl|(simp [cnt1,cnt2,cnt3];done)
 ·rintro k hk
  by_cases i6:k<b.length
  ·have hx:b[k]? = some b[k]:=List.getElem?_eq_getElem i6
   have o8:(b.map vw)[k]? = some (vw b[k]):=by rw [List.getElem?_map,hx];rfl
   have bt:b.take (k+1)=b.take k++[b[k]]:=by rw [List.take_add_one,hx];rfl
   have d6:=zfj (b.take k);have hlk:(b.take k).length=k:=by simp;omega
   have tx:=q99 (b.take k) b[k];rw [← bt] at tx;generalize b[k]=x at hx o8 tx;generalize cnt1 (b.take k)=a1 at *;generalize cnt2 (b.take k)=a2 at *;generalize cnt3 (b.take k)=a3 at *;obtain⟨q1,q2,q3⟩:=tx;apply qd [];repeat' (first|apply And.intro|(intro h;try exact cDd)|(refine Exists.intro (k) ⟨by omega,_,o8,?_⟩)|(refine Exists.intro (k+1) ⟨by omega,by omega,?_⟩)|exact cSd|apply qb []|refine exr ?_|refine qi ?_)
   all_goals first|rfl|(simp_all [SV.evs,SV.rens,SV.ren,SV.ev];done)
  ·have i6:k=b.length:=by omega
   subst i6;rw [List.take_length];have hmg:(g.map fun x=>Iv x).length=g.length:=by simp
   by_cases h0:g=[]
   ·subst h0
    apply qd [];repeat' (first|apply And.intro|(intro h;try exact cDd)|exact cSd|apply qb []|refine exr ?_|refine qi ?_)
   ·have sb:g=g.dropLast++[g.getLast h0]:=(List.dropLast_concat_getLast h0).symm
    generalize g.dropLast=a at sb;generalize g.getLast h0=z at sb;have tg:g.length=a.length+1:=by rw [sb];simp
    have hix:(g.map fun x=>Iv x)[a.length]? = some (Iv z):=by rw [sb];simp
    have hz2:g.getLastD 0=z:=by rw [sb];simp
    have hi0:(g.map fun x=>Iv x)[0]? = some (Iv (g.headD 0)):=by
     cases g with
     |nil=>exact absurd rfl h0
     |cons y r=>rfl
    rw [hz2];generalize g.headD 0=y at hi0;apply qd [];repeat' (first|apply And.intro|(intro h;try exact cDd)|(refine Exists.intro (0) ⟨by omega,_,hi0,?_⟩)|(refine Exists.intro (a.length) ⟨by omega,_,hix,?_⟩)|exact cSd|apply qb []|refine exr ?_|refine qi ?_)
theorem zfu (text:qa) (st:List AObj) (hl:text.length<1000000):qn E 25 [Sv text] st fun r st'=>r = .tu [logA (logH text).2,errA (logH text).1]∧st'=st:=by
 refine zx [.s text] (kc (q7s _) (jx _)) Tryz.func25 rfl rfl (fun _=>rfl) rfl fun S0=>?_;have bn:=fun st=>q2k text st hl;by_cases hr:(jn text).1 = .no
 ·obtain⟨b,r,hT,hp,he⟩:=qe6 hr
  have hB:=qcs hT;rw [qp6 hT hp] at bn;dsimp only at bn
  have hu:logH text=(.no,logL b.batches r.given):=by
   unfold logH;rw [q25 hT hp,he];exact if_pos rfl
  rw [hu];obtain⟨tg,hgr⟩:=qzp hp;have d8:=fun st=>q7l b st hB hT;have o7:(b.batches.map zo).length=b.batches.length:=by simp
  have gf:=hB.len;apply qd [];repeat' (first|apply And.intro|(intro h;try exact cDd)|exact⟨Tryz.call41⟩|refine cpe bn ?_|exact⟨Tryz.call47⟩|refine cpe d8 ?_|exact cSd|apply qb []|refine exr ?_|refine qi ?_)
  refine w7 (X:=Nat) (fun k=>⟨[(4,.bx 0 0),(5,.a (qm5 r.given)),(7,.tp 1),(8,.a (yw (qdn b))),(23,.a (qbx b.batches)),(24,.i b.batches.length),(25,.i k)],[(0,some (.cells 26 [.i b.gen,.s b.base,.a (qbx b.batches),.a (yw b.ends),.s b.tail])),(1,some (.tip 6 63 ((logL (b.batches.take k) (r.given.take k)).map qh2)))],2⟩) (fun k=>k≤b.batches.length) (fun k=>b.batches.length - k) 0 (by omega) ?_ ?_
  ·skip
   repeat' (first|apply And.intro|(intro h;try exact cDd)|exact cSd|apply qb []|refine exr ?_|refine qi ?_)
   all_goals first|rfl|(simp [logL];done)
  ·rintro k hk
   by_cases i6:k<b.batches.length
   ·have hx:b.batches[k]? = some b.batches[k]:=List.getElem?_eq_getElem i6
    have o8:(b.batches.map zo)[k]? = some (zo b.batches[k]):=by rw [List.getElem?_map,hx];rfl
    have hy:r.given[k]? = some (r.given[k]'(by omega)):=List.getElem?_eq_getElem (by omega);have hym:(r.given.map yw)[k]? = some (yw (r.given[k]'(by omega))):=by rw [List.getElem?_map,hy];rfl
    have hBx:=(hB.bat _ (List.getElem_mem i6)).1;obtain⟨p,t6,hp2⟩:=q5n hT hx;have hpm:((qdn b).map fun x=>Iv x)[k]? = some (Iv (p:Int)):=by rw [List.getElem?_map,t6];rfl
    have hem:(b.ends.map fun x=>Iv x)[k]? = some (Iv ((p:Int)+(recE b.batches[k]).length)):=by rw [List.getElem?_map,hp2];rfl
    have lv:=q5b hT hx;have hgk:(r.given[k]'(by omega)).length<1000000:=q7d hp hB (List.getElem_mem _);have tx:=qvg b.batches r.given k _ _ hx hy;have hll:(logL (b.batches.take k) (r.given.take k)).length=k:=by rw [qyw _ _ (by simp;omega)];simp;omega
    generalize r.given[k]'(by omega)=g at hy hym hgk tx;generalize b.batches[k]=x at hx o8 hBx hem tx lv;have cj:=fun st=>zaw x g ((recE x).length:Nat) st hBx.1 hgk;generalize (recE x).length=m at cj hem tx lv;have hmp:((m:Nat):Int)=(p:Int)+m - p:=by omega
    rw [hmp] at cj tx;apply qd [];repeat' (first|apply And.intro|(intro h;try exact cDd)|(refine Exists.intro (k) ⟨by omega,_,o8,?_⟩)|(refine Exists.intro (k) ⟨by omega,_,hym,?_⟩)|(refine Exists.intro (k) ⟨by omega,_,hem,?_⟩)|(refine Exists.intro (k) ⟨by omega,_,hpm,?_⟩)|exact⟨Tryz.call53⟩|refine cpe cj ?_|(refine Exists.intro (k+1) ⟨by omega,by omega,?_⟩)|exact cSd|apply qb []|refine exr ?_|refine qi ?_)
    all_goals first|(rw [tx];simp;done)|(simp;omega)
   ·have i6:k=b.batches.length:=by omega
    subst i6;rw [List.take_length,← tg,List.take_length];rw [tg];apply qd [];repeat' (first|apply And.intro|(intro h;try exact cDd)|exact cSd|apply qb []|refine exr ?_|refine qi ?_)
 ·have hu:logH text=((jn text).1,[]):=by unfold logH;exact if_neg hr
  rw [hu];unfold qge at bn;rw [if_neg hr] at bn;generalize (jn text).1=e at bn hr
  cases e with
  |no=>exact absurd rfl hr
  |num m=>
   apply qd []
   repeat' (first|apply And.intro|(intro h;try exact cDd)|exact⟨Tryz.call41⟩|refine cpe bn ?_|exact cSd|apply qb []|refine exr ?_|refine qi ?_)
  |at' a m=>
   apply qd [];repeat' (first|apply And.intro|(intro h;try exact cDd)|exact⟨Tryz.call41⟩|refine cpe bn ?_|exact cSd|apply qb []|refine exr ?_|refine qi ?_)
end Go.Proofs.YtihlchbgjdkmpaaGreatDoor
namespace Go.Pl
open Go Go.Proofs Go.Proofs.YtihlchbgjdkmpaaGreatDoor
def qeq:List ql:=[⟨2,1,[]⟩,⟨3,0,[([66],[50])]⟩,⟨3,0,[([66],[50])]⟩]
end Go.Pl
namespace Go.Proofs.YtihlchbgjdkmpaaGreatDoor
open Go Go.Av Go.RowKit Go.Proofs Go.Pl
theorem q51 (st:List AObj):qn E 8 [] st fun r st'=>r=Bv true∧st'=st:=by
 have hap:=fun st=>q6g qep qeq st (by decide) (by simp [qeq];exact⟨⟨by simp [KeyB],by simp,by simp,by simp⟩,by simp [KeyB],by simp,by simp,by simp⟩) (by decide);have h1:(Go.Pl.appF qep qeq).1 = .no:=by decide +kernel
 have h2:(Go.Pl.appF qep qeq).2.length<1000000:=by decide +kernel
 have h3:(logH (Go.Pl.appF qep qeq).2).1 = .no:=by decide +kernel
 have h4:((logH (Go.Pl.appF qep qeq).2).2.map fun e=>(e.del,e.ins,e.first,e.last))=[(1,2,2,3)]:=by decide +kernel
 have h5:(kq (Go.Pl.appF qep qeq).2).1 = .no:=by decide +kernel
 have h6:(kq (Go.Pl.appF qep qeq).2).2.length<1000000:=by decide +kernel
 have h7:(jn (kq (Go.Pl.appF qep qeq).2).2).1 = .no:=by decide +kernel
 have h8:qok (jn (kq (Go.Pl.appF qep qeq).2).2).2.2=qep:=by decide +kernel
 rw [h1] at hap;generalize (Go.Pl.appF qep qeq).2=s at *;have hlg:=fun st=>zfu s st h2;have pw:=fun st=>qm8 s st h2;rw [h3] at hlg;rw [h5] at pw;generalize (kq s).2=t at *;have nq:=fun st=>qkj t st h6;unfold qnt at nq;simp only [h7] at nq;obtain⟨hB,hI⟩:=qsw t;have ht:=fun st=>zed (jn t).2.2 st (q2p hB hI) (q0g hB hI);rw [h8] at ht;generalize (jn t).2.2=l at nq ht;generalize (jn t).2.1=b at nq;generalize (logH s).2=L at *
 obtain⟨e,rfl⟩:∃ e,L=[e]:=by
  cases L with
  |nil=>simp at h4
  |cons e r=>cases r with
   |nil=>exact⟨e,rfl⟩
   |cons _ _=>simp at h4
 simp only [List.map_cons,List.map_nil,List.cons.injEq,Prod.mk.injEq,and_true] at h4;obtain⟨q1,q2,q3,q4⟩:=h4;obtain⟨rep,del,ins,first,last,bytes⟩:=e;dsimp only at q1 q2 q3 q4;subst q1 q2 q3 q4;have hi0:[qh2 ⟨rep,1,2,2,3,bytes⟩][0]? = some (qh2 ⟨rep,1,2,2,3,bytes⟩):=rfl;replace hlg:∀ st,qn E 25 [Sv s] st fun r st'=>r = .tu [.sl 6 [qh2 ⟨rep,1,2,2,3,bytes⟩] none,errA .no]∧st'=st:=hlg;refine zx [] (qt _) Tryz.func8 rfl rfl (fun _=>rfl) rfl fun S0=>?_;apply qd [];repeat' (first|apply And.intro|(intro h;try exact cDd)|exact⟨Tryz.call34⟩|refine cpe hap ?_|exact⟨Tryz.call25⟩|refine cpe hlg ?_|exact⟨Tryz.call11⟩|refine cpe pw ?_|exact⟨Tryz.call9⟩|refine cpe nq ?_|exact⟨Tryz.call23⟩|refine cpe ht ?_|(refine Exists.intro (0) ⟨by omega,_,hi0,?_⟩)|exact cSd|apply qb []|refine exr ?_|refine qi ?_)
 all_goals first|rfl|(simp;done)
theorem q1y (s t:List (Int×List Fld)) (st:List AObj) (hsm:s.map Prod.snd=t.map Prod.snd) (hl:s.length<1000000) (hf:∀ x∈s,x.2.length<1000000):qn E 13 [qjk s,qjk t] st fun r st'=>r=Bv true∧st'=st:=by
 refine zx [.a (qjk s),.a (qjk t)] (qt _) Tryz.func13 rfl rfl (fun _=>rfl) rfl fun S0=>?_;have hmi:(s.map stzA).length=s.length:=by simp
 have d8:t.length=s.length:=by have:=congrArg List.length hsm;simpa using this.symm
 have hmt:(t.map stzA).length=s.length:=by simp [d8]
 apply qd [];repeat' (first|apply And.intro|(intro h;try exact cDd)|exact cSd|apply qb []|refine exr ?_|refine qi ?_)
 refine w7 (X:=Nat) (fun k=>⟨[(0,.a (qjk s)),(1,.a (qjk t)),(12,.i s.length),(13,.i k)],[],0⟩) (fun k=>k≤s.length) (fun k=>s.length - k) 0 (by omega) ?_ ?_
 ·skip
  repeat' (first|apply And.intro|(intro h;try exact cDd)|exact cSd|apply qb []|refine exr ?_|refine qi ?_)
  all_goals first|rfl|(simp;done)
 ·rintro k hk
  by_cases i6:k<s.length
  ·have hx:s[k]? = some s[k]:=List.getElem?_eq_getElem i6
   have o8:(s.map stzA)[k]? = some (stzA s[k]):=by rw [List.getElem?_map,hx];rfl
   have hy:t[k]? = some (t[k]'(by omega)):=List.getElem?_eq_getElem (by omega);have hym:(t.map stzA)[k]? = some (stzA (t[k]'(by omega))):=by rw [List.getElem?_map,hy];rfl
   have hxf:=hf s[k] (List.getElem_mem i6)
   have hxy:s[k].2=(t[k]'(by omega)).2:=by
    have:=congrArg (fun l:List (List Fld)=>l[k]?) hsm
    simpa [hx,hy] using this
   generalize s[k]=x at hx o8 hxf hxy;generalize t[k]'(by omega)=y at hy hym hxy;have rq:=fun st=>q67 x.2 y.2 st (by omega);rw [decide_eq_true hxy] at rq;apply qd [];repeat' (first|apply And.intro|(intro h;try exact cDd)|(refine Exists.intro (k) ⟨by omega,_,o8,?_⟩)|(refine Exists.intro (k) ⟨by omega,_,hym,?_⟩)|exact⟨Tryz.call38⟩|refine cpe rq ?_|(refine Exists.intro (k+1) ⟨by omega,by omega,?_⟩)|exact cSd|apply qb []|refine exr ?_|refine qi ?_)
  ·have i6:k=s.length:=by omega
   subst i6;apply qd [];repeat' (first|apply And.intro|(intro h;try exact cDd)|exact cSd|apply qb []|refine exr ?_|refine qi ?_)
set_option maxHeartbeats 4000000 in
theorem ze5 (text:qa) (st:List AObj):qn E 3 [Sv text] st fun r st'=>r=Bv true∧st'=st:=by
 refine zx [.s text] (qt _) Tryz.func3 rfl rfl (fun _=>rfl) rfl fun S0=>?_;have hal:=q51;by_cases h4:4000<text.length
 ·apply qd []
  repeat' (first|apply And.intro|(intro h;try exact cDd)|exact⟨Tryz.call8⟩|refine cpe hal ?_|exact cSd|apply qb []|refine exr ?_|refine qi ?_)
 have nq:=fun st=>qkj text st (by omega);by_cases hr:(jn text).1 = .no
 case neg=>
  unfold qnt at nq;generalize jn text=q at nq hr;obtain⟨e,b,l⟩:=q
  cases e
  case no=>exact absurd rfl hr
  all_goals
   apply qd [];repeat' (first|apply And.intro|(intro h;try exact cDd)|exact⟨Tryz.call8⟩|refine cpe hal ?_|exact⟨Tryz.call9⟩|refine cpe nq ?_|exact cSd|apply qb []|refine exr ?_|refine qi ?_)
 obtain⟨b,r,hT,hp,he⟩:=qe6 hr;rw [he] at nq;replace nq:∀ st,qn E 9 [Sv text] st fun q st'=>q = .tu [qaj b,kf r.l,errA .no]∧st'=st:=nq;have hB:=qcs hT;by_cases hb:b.batches=[]
 ·have o7:(b.batches.map zo).length=0:=by rw [hb];rfl
  apply qd [];repeat' (first|apply And.intro|(intro h;try exact cDd)|exact⟨Tryz.call8⟩|refine cpe hal ?_|exact⟨Tryz.call9⟩|refine cpe nq ?_|exact cSd|apply qb []|refine exr ?_|refine qi ?_)
 have d5:b.batches.length<14000:=by
  have h1:=qlv b.batches;have h2:=congrArg List.length hT.txt;simp only [List.length_append] at h2;omega
 have fj:b.batches=b.batches.dropLast++[b.batches.getLast hb]:=(List.dropLast_concat_getLast hb).symm;generalize b.batches.dropLast=bs at fj;generalize b.batches.getLast hb=x at fj;have htw:=zg3 hT fj hp d5;obtain⟨r1,h1,h2,h3,_⟩:=qiq hT fj hp;obtain⟨hn,tg,pg,hlm,hli,hbh⟩:=qqb hB fj h1;have o7:(b.batches.map zo).length=bs.length+1:=by rw [fj];simp
 have s7:=fun st=>qnq b (((b.batches.map zo).length:Nat) - 1:Int) st hB;rw [show yt b (((b.batches.map zo).length:Nat) - 1:Int)=(.no,r1) by rw [show (((b.batches.map zo).length:Nat) - 1:Int)=((bs.length:Nat):Int) by omega];exact hbh] at s7;rw [hbh] at htw;replace s7:∀ st,qn E 10 [qaj b,Iv (((b.batches.map zo).length:Nat) - 1:Int)] st fun r st'=>r = .tu [kf r1.l,errA .no]∧st'=st:=s7;have hud:=fun st=>qm8 text st (by omega);have hpk:=qfn b.base b.batches hB.len;rw [hp] at hpk;obtain⟨hlb0,_,hli0⟩:=hpk;dsimp only at hlb0 hli0 htw;rcases htw with g | ⟨g,b2,r2,hT2,hp2,he2,ml,htw⟩
 ·rw [g] at hud
  have his:=fun st=>zco (.num 11) 11 st (show (11:Int)≠0 by decide);generalize (kq text).2=s at hud;generalize r.l=l0 at *;generalize r1.l=l1 at *;apply qd [];repeat' (first|apply And.intro|(intro h;try exact cDd)|exact⟨Tryz.call8⟩|refine cpe hal ?_|exact⟨Tryz.call9⟩|refine cpe nq ?_|exact⟨Tryz.call10⟩|refine cpe s7 ?_|exact⟨Tryz.call11⟩|refine cpe hud ?_|exact⟨Tryz.call12⟩|refine cpe his ?_|exact cSd|apply qb []|refine exr ?_|refine qi ?_)
 rw [g] at hud;generalize (kq text).2=s at *;have gb:s.length≤120000:=hT2.len;have hrs:=fun st=>qkj s st (by omega);rw [he2] at hrs;replace hrs:∀ st,qn E 9 [Sv s] st fun q st'=>q = .tu [qaj b2,kf r2.l,errA .no]∧st'=st:=hrs;have hud2:=fun st=>qm8 s st (by omega);have hp2k:=qfn b2.base b2.batches (qcs hT2).len;rw [hp2] at hp2k;obtain⟨hlb2,_,hli2⟩:=hp2k;dsimp only at hlb2 hli2;rcases htw with g2 | ⟨g2,b3,r3,hT3,he3,hs3⟩
 ·rw [g2] at hud2
  have his:=fun st=>zco (.num 11) 11 st (show (11:Int)≠0 by decide);generalize (kq s).2=t at hud2;generalize r.l=l0 at *;generalize r1.l=l1 at *;generalize r2.l=l2 at *;apply qd [];repeat' (first|apply And.intro|(intro h;try exact cDd)|exact⟨Tryz.call8⟩|refine cpe hal ?_|exact⟨Tryz.call9⟩|refine cpe nq ?_|exact⟨Tryz.call10⟩|refine cpe s7 ?_|exact⟨Tryz.call11⟩|refine cpe hud ?_|exact⟨Tryz.call9⟩|refine cpe hrs ?_|exact⟨Tryz.call11⟩|refine cpe hud2 ?_|exact⟨Tryz.call12⟩|refine cpe his ?_|exact cSd|apply qb []|refine exr ?_|refine qi ?_)
 rw [g2] at hud2;generalize (kq s).2=t at *;have htl:t.length≤120000:=hT3.len;have hrt3:=fun st=>qkj t st (by omega);obtain⟨tj,hli3⟩:=qsw t;rw [he3] at hrt3 tj hli3;dsimp only at tj hli3;replace hrt3:∀ st,qn E 9 [Sv t] st fun q st'=>q = .tu [qaj b3,kf r3.l,errA .no]∧st'=st:=hrt3;have key:∀ l:qq,LB 860000 l→LI l→l.ents.length<1000000∧∀ e∈l.ents,e.x.fields.length<1000000:=fun l h1 h2=>⟨by have:=h1.len;omega,fun e he=>by have:=(h2 e he).2;omega⟩;have z0:=key _ hlb0 hli0;have z1:=key _ pg hli;have z2:=key _ hlb2 hli2;have z3:=key _ tj hli3;have s0:=fun st=>qe2 r.l st z0.1 z0.2;have s1:=fun st=>qe2 r1.l st z1.1 z1.2;have s2:=fun st=>qe2 r2.l st z2.1 z2.2;have s3:=fun st=>qe2 r3.l st z3.1 z3.2;have a1:=fun st=>q1y (stzF r2.l.ents) (stzF r1.l.ents) st ml (Nat.lt_of_le_of_lt (qqp _) z2.1) (q28 z2.2);have a2:=fun st=>q1y (stzF r3.l.ents) (stzF r.l.ents) st hs3 (Nat.lt_of_le_of_lt (qqp _) z3.1) (q28 z3.2);generalize r.l=l0 at *;generalize r1.l=l1 at *;generalize r2.l=l2 at *;generalize r3.l=l3 at *;generalize stzF l0.ents=t0 at *;generalize stzF l1.ents=t1 at *;generalize stzF l2.ents=t2 at *;generalize stzF l3.ents=t3 at *;apply qd [];repeat' (first|apply And.intro|(intro h;try exact cDd)|exact⟨Tryz.call8⟩|refine cpe hal ?_|exact⟨Tryz.call9⟩|refine cpe nq ?_|exact⟨Tryz.call10⟩|refine cpe s7 ?_|exact⟨Tryz.call11⟩|refine cpe hud ?_|exact⟨Tryz.call9⟩|refine cpe hrs ?_|exact⟨Tryz.call11⟩|refine cpe hud2 ?_|exact⟨Tryz.call9⟩|refine cpe hrt3 ?_|exact⟨Tryz.call14⟩|refine cpe s0 ?_|exact⟨Tryz.call14⟩|refine cpe s1 ?_|exact⟨Tryz.call14⟩|refine cpe s2 ?_|exact⟨Tryz.call14⟩|refine cpe s3 ?_|exact⟨Tryz.call13⟩|refine cpe a1 ?_|exact⟨Tryz.call13⟩|refine cpe a2 ?_|exact cSd|apply qb []|refine exr ?_|refine qi ?_)
end Go.Proofs.YtihlchbgjdkmpaaGreatDoor
