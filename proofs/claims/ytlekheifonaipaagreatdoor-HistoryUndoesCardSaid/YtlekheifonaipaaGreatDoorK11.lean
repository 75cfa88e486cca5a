/- Contracts and plain facts that the closing text leans on (part 11). No condition of their own beyond those that each states. -/
import Derived.Test.YtlekheifonaipaaGreatDoorK10
set_option maxRecDepth 100000
set_option linter.unusedVariables false
set_option linter.unusedSimpArgs false
open And renaming intro→Qa
open Exists renaming intro→Qb
open List renaming getElem?_map→Qc,getElem?_eq_getElem→Qd,dropLast_concat_getLast→Qe,getElem_mem→Qf,take_length→Qg,length_append→Qh,length_take→Qi,countP_le_length→Qj,length→Qk,take_add_one→Ql,not_mem_nil→Qm,mem_cons→Qn,map_cons→Qp,getElem?_range→Qq,map_nil→Qr,length_cons→Qt,length_nil→Qu,range_succ→Qv,map_append→Qw,range→Qz
open List.cons renaming injEq→Zb
open Nat renaming le_refl→Qs,zero_add→Qx,le_trans→Qy
open Option.some renaming injEq→Za
open Prod.mk renaming injEq→Qo
namespace Go.Pl
open Go Go.Proofs Go.Proofs.YtlekheifonaipaaGreatDoor
def qhw(text:qa):ErrV×jy×List (List Int):=if(z8 text).1=.no then(.no,(z8 text).2.1,(runT text).given)else((z8 text).1,qar,[])
theorem qoy{text:qa}{b:jy}{r:RunV}(hT:xz text b)(hp:jh b.base b.batches=(.no,r)):qhw text=(.no,b,r.given):=by
 unfold qhw;rw[qr3 hT hp,zbo hT hp];exact if_pos rfl
theorem qu9{b:jy}{bs:List (List qm)}{x:List qm}{r1:RunV}(hB:BkB b)(hb:b.batches=bs++[x])(h1:jh b.base bs=(.no,r1)):GN r1.l∧GL r1.l∧LB 860000 r1.l∧LM r1.l∧LI r1.l∧qec b (bs.length:Nat)=(.no,r1):=by
 have hp:=qnd h1;have hn:GN r1.l:=by have:=zki b.base bs;rw[h1]at this;exact this
 have hl:GL r1.l:=by have:=zkh b.base bs hp;rw[h1]at this;exact this
 have d5:bs.length<=14000:=by have:=hB.len;rw[hb,Qh]at this;omega
 have ho:=qvg b.base bs d5;rw[h1]at ho;refine⟨hn,hl,ho.1,ho.2.1,ho.2.2,?_⟩;have ht:b.batches.take bs.length=bs:=by rw[hb];simp
 unfold qec;rw[if_neg (by rw[hb];simp;omega)];simp only[Int.toNat_natCast];rw[ht,h1]
theorem qvz{text:qa}(h:(we text).1=.no):(∀y∈(we text).2,EdB y)∧(we text).2.length<=5000∧∀y∈(we text).2,y.fields.length<=40:=by
 have hr:(z8 text).1=.no:=by
  by_cases hr:(z8 text).1=.no
  .exact hr
  .unfold we at h
   rw[if_neg hr]at h;exact absurd h hr
 obtain⟨b,r,hT,hp,he⟩:=qd4 hr;have hB:=qdz hT;by_cases hb:b.batches=[]
 .unfold we at h
  rw[he]at h;simp only[hb]at h;exact absurd h Sx
 .have dp:b.batches=b.batches.dropLast++[b.batches.getLast hb]:=(Qe hb).symm
  generalize b.batches.dropLast=bs at dp;generalize b.batches.getLast hb=x at dp;obtain⟨r1,h1,h2,h3,h4⟩:=qvy hT dp hp;obtain⟨hn,hl,nv,_⟩:=qu9 hB dp h1;rw[h4];have hs:=zdo h1 h2;have hx:=(qvg b.base (bs++[x]) (by rw[<-dp];exact hB.len)).1.nx1;rw[hs]at hx;simp only at hx;refine⟨zob hn hl h2 (by have:(qaj r1 x).l=(doF r1.l x).2.1:=rfl;rw[<-this];omega),?_,λy hy=>(qfe ((qb0 (zn1 hn hl h2).1).2.2 y hy)).1⟩;obtain⟨g1,g2,g3⟩:=qp1 h2
  show(qae r1.l x).length<=5000
  unfold qae;rw[qol,List.length_reverse,qhe];have:=(hB.bat x (by rw[dp];simp)).2;omega
end Go.Pl
namespace Go.Proofs.YtlekheifonaipaaGreatDoor
open Go Go.Av Go.RowKit Go.Proofs Go.Pl
theorem qzo(text:qa)(st:List AObj)(hl:text.length<1000000):qp E 18 [Sv text] st λr st'=>r=.tu [qas (qhw text).2.1,qnu (qhw text).2.2,errA (qhw text).1]∧st'=st:=by
 refine ze [.s text] (yc (qfc _) (qi7 _) (ki _)) Tryz.func18 rfl rfl (λ_=>rfl) rfl λS0=>?_;have ht:=λst=>zbn text st hl;by_cases hr:(z8 text).1=.no
 .obtain⟨b,r,hT,hp,he⟩:=qd4 hr
  have hg:=λst=>zk1 b st (qdz hT);rw[qoy hT hp];rw[he]at ht;rw[hp,if_pos rfl]at hg;generalize r.l=l at ht;generalize r.given=g at hg;apply qd [];repeat' (first|apply Qa|(intro h;try exact cDd)|exact⟨Tryz.call16⟩|refine cpe ht ?_|exact⟨Tryz.call37⟩|refine cpe hg ?_|exact cSd2|apply qb []|refine exr ?_|refine qe ?_)
 .unfold qhw
  rw[if_neg hr];generalize z8 text=q at ht hr;obtain⟨e,b,l⟩:=q
  cases e with
  |no=>exact absurd rfl hr
  |num m=>
   apply qd []
   repeat' (first|apply Qa|(intro h;try exact cDd)|exact⟨Tryz.call16⟩|refine cpe ht ?_|exact cSd2|apply qb []|refine exr ?_|refine qe ?_)
  |at' a m=>
   apply qd [];repeat' (first|apply Qa|(intro h;try exact cDd)|exact⟨Tryz.call16⟩|refine cpe ht ?_|exact cSd2|apply qb []|refine exr ?_|refine qe ?_)
theorem zau(text:qa)(st:List AObj)(hl:text.length<1000000):qp E 5 [Sv text] st λr st'=>r=.tu [zh (we text).2,errA (we text).1]∧st'=st:=by
 refine ze [.s text] (ju (qa4 _) (ki _)) Tryz.func5 rfl rfl (λ_=>rfl) rfl λS0=>?_;have i8:=λst=>qzo text st hl;by_cases hr:(z8 text).1=.no
 .obtain⟨b,r,hT,hp,he⟩:=qd4 hr
  have hB:=qdz hT;rw[qoy hT hp]at i8;dsimp only at i8;by_cases hb:b.batches=[]
  .have hu:we text=(.num 7,[]):=by
    unfold we;rw[he];simp only[hb];rfl
   rw[hu];have o0:(b.batches.map zh).length=0:=by rw[hb];rfl
   generalize r.given=g at i8;apply qd [];repeat' (first|apply Qa|(intro h;try exact cDd)|exact⟨Tryz.call18⟩|refine cpe i8 ?_|exact cSd2|apply qb []|refine exr ?_|refine qe ?_)
  .have dp:b.batches=b.batches.dropLast++[b.batches.getLast hb]:=(Qe hb).symm
   generalize b.batches.dropLast=bs at dp;generalize b.batches.getLast hb=x at dp;obtain⟨r1,h1,h2,h3,h4⟩:=qvy hT dp hp;obtain⟨hn,rg,nv,hlm,hli,hbh⟩:=qu9 hB dp h1;have o0:(b.batches.map zh).length=bs.length+1:=by rw[dp];simp
   have hix:(b.batches.map zh)[bs.length]?=some (zh x):=by rw[dp];simp
   have hBx:=(hB.bat x (by rw[dp];simp)).1;have s6:=λst=>q2a b (((b.batches.map zh).length:Nat)-1:Int) st hB;rw[show qec b (((b.batches.map zh).length:Nat)-1:Int)=(.no,r1)by rw[show(((b.batches.map zh).length:Nat)-1:Int)=((bs.length:Nat):Int)by omega];exact hbh]at s6;have cz:=hB.len;have hbm:(b.batches.map zh).length=b.batches.length:=Sx
   have hba:=λst=>zmn r1.l x st nv hlm hli hn rg hBx.2 hBx.1;rw[if_pos h2,h2]at hba;rw[h4];generalize r.given=g at i8;generalize qae r1.l x=bk at hba;generalize r1.l=q at hba s6;apply qd [];repeat' (first|apply Qa|(intro h;try exact cDd)|exact⟨Tryz.call18⟩|refine cpe i8 ?_|exact⟨Tryz.call19⟩|refine cpe s6 ?_|(refine Qb (bs.length) ⟨Om,_,hix,?_⟩)|exact⟨Tryz.call20⟩|refine cpe hba ?_|exact cSd2|apply qb []|refine exr ?_|refine qe ?_)
 .have hu:we text=((z8 text).1,[]):=by unfold we;exact if_neg hr
  rw[hu];unfold qhw at i8;rw[if_neg hr]at i8;generalize(z8 text).1=e at i8 hr
  cases e with
  |no=>exact absurd rfl hr
  |num m=>
   apply qd []
   repeat' (first|apply Qa|(intro h;try exact cDd)|exact⟨Tryz.call18⟩|refine cpe i8 ?_|exact cSd2|apply qb []|refine exr ?_|refine qe ?_)
  |at' a m=>
   apply qd [];repeat' (first|apply Qa|(intro h;try exact cDd)|exact⟨Tryz.call18⟩|refine cpe i8 ?_|exact cSd2|apply qb []|refine exr ?_|refine qe ?_)
theorem q1o(text:qa)(st:List AObj)(hl:text.length<1000000):qp E 10 [Sv text] st λr st'=>r=.tu [Sv (qam text).2,errA (qam text).1]∧st'=st:=by
 refine ze [.s text] (ju (qr _) (ki _)) Tryz.func10 rfl rfl (λ_=>rfl) rfl λS0=>?_;have hu:=λst=>zau text st hl;unfold qam;have hok:=@qvz text;generalize we text=q at hu hok;obtain⟨e,x⟩:=q;dsimp only at hu hok⊢
 cases e with
 |no=>
  obtain⟨g1,g2,_⟩:=hok rfl;have hap:=λst=>zez text x st hl g1 Om;rw[if_pos rfl];generalize Go.Pl.appF text x=p at *;obtain⟨e2,t⟩:=p
  cases e2
  all_goals
   apply qd []
   repeat' (first|apply Qa|(intro h;try exact cDd)|exact⟨Tryz.call5⟩|refine cpe hu ?_|exact⟨Tryz.call14⟩|refine cpe hap ?_|exact cSd2|apply qb []|refine exr ?_|refine qe ?_)
 |num m=>
  rw[if_neg Sx];apply qd []
  repeat' (first|apply Qa|(intro h;try exact cDd)|exact⟨Tryz.call5⟩|refine cpe hu ?_|exact cSd2|apply qb []|refine exr ?_|refine qe ?_)
 |at' a m=>
  rw[if_neg Sx];apply qd [];repeat' (first|apply Qa|(intro h;try exact cDd)|exact⟨Tryz.call5⟩|refine cpe hu ?_|exact cSd2|apply qb []|refine exr ?_|refine qe ?_)
theorem zfx(text:qa)(n:Int)(st:List AObj)(hl:text.length<1000000):qp E 12 [Sv text,Iv n] st λr st'=>r=.tu [Sv (xk text n).2,errA (xk text n).1]∧st'=st:=by
 refine ze [.s text,.i n] (ju (qr _) (ki _)) Tryz.func12 rfl rfl (λ_=>rfl) rfl λS0=>?_;have i8:=λst=>qzo text st hl;by_cases hr:(z8 text).1=.no
 .obtain⟨b,r,hT,hp,he⟩:=qd4 hr
  have hB:=qdz hT;rw[qoy hT hp]at i8;dsimp only at i8;have o0:(b.batches.map zh).length=b.batches.length:=Sx
  generalize r.given=g at i8;by_cases hn:n<0∨(b.batches.length:Int)<n
  .have hu:xk text n=(.num 7,[]):=by
    unfold xk;rw[he];exact(if_pos rfl).trans (if_pos hn)
   rw[hu];apply qd [];repeat' (first|apply Qa|(intro h;try exact cDd)|exact⟨Tryz.call18⟩|refine cpe i8 ?_|exact cSd2|apply qb []|refine exr ?_|refine qe ?_)
  .obtain⟨k,rfl⟩:∃k:Nat,n=(k:Int):=⟨n.toNat,Om⟩
   have hu:xk text k=(.no,wb b k):=by
    unfold xk;rw[he];exact(if_pos rfl).trans ((if_neg hn).trans Sx)
   rw[hu];have e7:=λst=>q1n b st hB hT
   have d8:((qel b).map λx=>Iv x)[k]?=some (Iv ((wb b k).length:Nat)):=by
    rw[Qc,qj2 hT Om];rfl
   have hbt:text.take (wb b k).length=wb b k:=qi0 hT k
   have d7:(wb b k).length<=text.length:=by
    have:=congrArg Qk hbt;rw[Qi]at this;omega
   rw[<-hbt];generalize(wb b k).length=m at d8 d7;apply qd [];repeat' (first|apply Qa|(intro h;try exact cDd)|exact⟨Tryz.call18⟩|refine cpe i8 ?_|exact⟨Tryz.call26⟩|refine cpe e7 ?_|(refine Qb (k) ⟨Om,_,d8,?_⟩)|exact cSd2|apply qb []|refine exr ?_|refine qe ?_)
 .have hu:xk text n=((z8 text).1,[]):=by unfold xk;exact if_neg hr
  rw[hu];unfold qhw at i8;rw[if_neg hr]at i8;generalize(z8 text).1=e at i8 hr
  cases e with
  |no=>exact absurd rfl hr
  |num m=>
   apply qd []
   repeat' (first|apply Qa|(intro h;try exact cDd)|exact⟨Tryz.call18⟩|refine cpe i8 ?_|exact cSd2|apply qb []|refine exr ?_|refine qe ?_)
  |at' a m=>
   apply qd [];repeat' (first|apply Qa|(intro h;try exact cDd)|exact⟨Tryz.call18⟩|refine cpe i8 ?_|exact cSd2|apply qb []|refine exr ?_|refine qe ?_)
end Go.Proofs.YtlekheifonaipaaGreatDoor
namespace Go.Pl
open Go Go.Proofs Go.Av Go.Proofs.YtlekheifonaipaaGreatDoor
@[reducible] def qle (e : qk6) : AV := .ag [Iv e.rep, Iv e.del, Iv e.ins, Iv e.first, Iv e.last, Iv e.bytes]
@[reducible] def logA (l : List qk6) : AV := .sl 6 (l.map qle) none
theorem zf8(l:List qk6):Pure (logA l):=qbi λx hx=>by
 obtain⟨e,_,rfl⟩:=List.mem_map.1 hx;intro y hy;simp only[AV.cells,Qn,Qm,or_false]at hy;rcases hy with rfl|rfl|rfl|rfl|rfl|rfl <;>exact qr _
theorem q84(e:qk6):Pure (qle e):=ye λy hy=>by
 simp only[AV.cells,Qn,Qm,or_false]at hy;rcases hy with rfl|rfl|rfl|rfl|rfl|rfl <;>exact qr _
def cnt1(b:List qm):Nat:=b.countP λx=>decide (x.kind=1)
def cnt2(b:List qm):Nat:=b.countP λx=>decide (x.kind=2)
def cnt3(b:List qm):Nat:=b.countP λx=> !decide (x.kind=1)&& !decide (x.kind=2)
theorem ziz(b:List qm)(x:qm):cnt1 (b++[x])=cnt1 b+(if x.kind=1 then 1 else 0)∧cnt2 (b++[x])=cnt2 b+(if x.kind=2 then 1 else 0)∧cnt3 (b++[x])=cnt3 b+(if x.kind=1∨x.kind=2 then 0 else 1):=by
 unfold cnt1 cnt2 cnt3;simp only[List.countP_append,List.countP_cons,List.countP_nil,Qx];by_cases h1:x.kind=1
 .simp[h1]
 .by_cases h2:x.kind=2
  .simp[h1,h2]
  .simp[h1,h2]
theorem zog(b:List qm):cnt1 b<=b.length∧cnt2 b<=b.length∧cnt3 b<=b.length:=⟨Qj,Qj,Qj⟩
theorem zmq(b:List qm)(g:List Int)(n:Int):entF b g n=⟨cnt1 b,cnt2 b,cnt3 b,g.headD 0,g.getLastD 0,n⟩:=rfl
theorem q1x:∀(bs:List (List qm))(gs:List (List Int))(k:Nat)(x:List qm)(g:List Int),bs[k]?=some x->gs[k]?=some g->logL (bs.take (k+1)) (gs.take (k+1))=logL (bs.take k) (gs.take k)++[entF x g (recE x).length]
 | [],_,k,x,g,h,_=>by simp at h
 |y::bs,[],k,x,g,_,h=>by simp at h
 |y::bs,z::gs,0,x,g,h1,h2=>by
  simp only[List.getElem?_cons_zero,Za]at h1 h2;subst h1;subst h2
  rfl
 |y::bs,z::gs,k+1,x,g,h1,h2=>by
  simp only[List.getElem?_cons_succ]at h1 h2;simp only[List.take_succ_cons,logL];rw[q1x bs gs k x g h1 h2];rfl
theorem qw3:∀(b:List qm)(k:Nat)(l:qs)(ids:List Int),(kf k b l ids).2.2.length<=ids.length+b.length
 | [],_,_,_=>Qs _
 |x::r,k,l,ids=>by
  rw[kf];split
  .refine Qy (qw3 r _ _ _) ?_
   split
   .simp only[Qh,Qt,Qu];omega
   .simp only[Qt];omega
  .simp only;omega
theorem zml(l:qs)(b:List qm):(doF l b).2.2.length<=b.length:=by
 unfold doF;split
 .have:=qw3 b 0 l []
  simpa using this
 .simp
theorem qrz{N:Nat}:∀(bs:List (List qm))(r r':RunV),zz bs r=(.no,r')->(∀x∈bs,x.length<=N)->(∀g∈r.given,g.length<=N)->∀g∈r'.given,g.length<=N
 | [],r,r',h,_,hg=>by
  simp only[zz,Qo,true_and]at h;subst h
  exact hg
 |x::q,r,r',h,hb,hg=>by
  unfold zz at h;split at h
  .refine qrz q _ _ h (λy hy=>hb y (by simp[hy])) λg hm=>?_
   have hm:g∈r.given++[(doF r.l x).2.2]:=hm;rcases List.mem_append.1 hm with hm|hm
   .exact hg g hm
   .simp only[Qn,Qm,or_false]at hm
    subst hm;exact Qy (zml _ _) (hb x Sx)
  .simp at h
theorem zfs{b:jy}{r:RunV}(hp:jh b.base b.batches=(.no,r))(hB:BkB b){g:List Int}(hg:g∈r.given):g.length<1000000:=by
 unfold jh at hp;split at hp
 .have:=qrz (N:=5000) b.batches _ r hp (λx hx=>(hB.bat x hx).2) Sx g hg
  omega
 .rename_i h
  simp only[Qo]at hp;exact absurd hp.1 h
theorem qwq{b:jy}{k:Nat}{x:List qm}(h:b.batches[k]?=some x):(wb b (k+1)).length=(wb b k).length+(recE x).length:=by
 unfold wb;rw[Ql,h];simp only[Option.toList_some,qpq,Qh];omega
theorem zdq{text:qa}{b:jy}(hT:xz text b){k:Nat}{x:List qm}(h:b.batches[k]?=some x):(recE x).length<=120000:=by
 have h1:=qwq h;have h2:=congrArg Qk (qi0 hT (k+1));rw[Qi]at h2;have:=hT.len;omega
end Go.Pl
namespace Go.Proofs.YtlekheifonaipaaGreatDoor
open Go Go.Av Go.RowKit Go.Proofs Go.Pl
theorem zjj(b:List qm)(g:List Int)(n:Int)(st:List AObj)(hl:b.length<1000000)(hg:g.length<1000000):qp E 33 [zh b,yh g,Iv n] st λr st'=>r=qle (entF b g n)∧st'=st:=by
 refine ze [.a (zh b),.a (yh g),.i n] (q84 _) Tryz.func33 rfl rfl (λ_=>rfl) rfl λS0=>?_;rw[zmq];have o0:(b.map zt).length=b.length:=Sx
 apply qd [];repeat' (first|apply Qa|(intro h;try exact cDd)|exact cSd2|apply qb []|refine exr ?_|refine qe ?_)
 refine zw (X:=Nat) (λk=>⟨[(1,.a (yh g)),(6,.bx 0 0),(7,.bx 1 0),(13,.a (zh b)),(14,.i b.length),(15,.i k)],[(0,some (.cells 49 [.i 0,.i 0,.i 0,.i 0,.i 0,.i 0])),(1,some (.cells 49 [.i (cnt1 (b.take k)),.i (cnt2 (b.take k)),.i (cnt3 (b.take k)),.i 0,.i 0,.i n]))],2⟩) (λk=>k<=b.length) (λk=>b.length-k) 0 Om ?_ ?_
 .skip
  repeat' (first|apply Qa|(intro h;try exact cDd)|exact cSd2|apply qb []|refine exr ?_|refine qe ?_)
  all_goals first|rfl|(simp[cnt1,cnt2,cnt3];done)
 .rintro k hk
  by_cases e9:k<b.length
  .have hx:b[k]?=some b[k]:=Qd e9
   have g9:(b.map zt)[k]?=some (zt b[k]):=by rw[Qc,hx];rfl
   have i7:b.take (k+1)=b.take k++[b[k]]:=by rw[Ql,hx];rfl
   have d7:=zog (b.take k);have hlk:(b.take k).length=k:=So
   have pg:=ziz (b.take k) b[k];rw[<-i7]at pg;generalize b[k]=x at hx g9 pg;generalize cnt1 (b.take k)=a1 at *;generalize cnt2 (b.take k)=a2 at *;generalize cnt3 (b.take k)=a3 at *;obtain⟨q1,q2,q3⟩:=pg;apply qd [];repeat' (first|apply Qa|(intro h;try exact cDd)|(refine Qb (k) ⟨Om,_,g9,?_⟩)|(refine Qb (k+1) ⟨Om,Om,?_⟩)|exact cSd2|apply qb []|refine exr ?_|refine qe ?_)
   all_goals first|rfl|(simp_all[SV.evs,SV.rens,SV.ren,SV.ev];done)
  .have e9:k=b.length:=by omega
   subst e9;rw[Qg];have hmg:(g.map λx=>Iv x).length=g.length:=Sx
   by_cases h0:g=[]
   .subst h0
    apply qd [];repeat' (first|apply Qa|(intro h;try exact cDd)|exact cSd2|apply qb []|refine exr ?_|refine qe ?_)
   .have hls:g=g.dropLast++[g.getLast h0]:=(Qe h0).symm
    generalize g.dropLast=a at hls;generalize g.getLast h0=z at hls;have rg:g.length=a.length+1:=by rw[hls];simp
    have hix:(g.map λx=>Iv x)[a.length]?=some (Iv z):=by rw[hls];simp
    have hz2:g.getLastD 0=z:=by rw[hls];simp
    have hi0:(g.map λx=>Iv x)[0]?=some (Iv (g.headD 0)):=by
     cases g with
     |nil=>exact absurd rfl h0
     |cons y r=>rfl
    rw[hz2];generalize g.headD 0=y at hi0;apply qd [];repeat' (first|apply Qa|(intro h;try exact cDd)|(refine Qb (0) ⟨Om,_,hi0,?_⟩)|(refine Qb (a.length) ⟨Om,_,hix,?_⟩)|exact cSd2|apply qb []|refine exr ?_|refine qe ?_)
theorem zop(text:qa)(st:List AObj)(hl:text.length<1000000):qp E 15 [Sv text] st λr st'=>r=.tu [logA (logH text).2,errA (logH text).1]∧st'=st:=by
 refine ze [.s text] (ju (zf8 _) (ki _)) Tryz.func15 rfl rfl (λ_=>rfl) rfl λS0=>?_;have i8:=λst=>qzo text st hl;by_cases hr:(z8 text).1=.no
 .obtain⟨b,r,hT,hp,he⟩:=qd4 hr
  have hB:=qdz hT;rw[qoy hT hp]at i8;dsimp only at i8
  have hu:logH text=(.no,logL b.batches r.given):=by
   unfold logH;rw[zbo hT hp,he];exact if_pos rfl
  rw[hu];obtain⟨rg,hgr⟩:=q67 hp;have e7:=λst=>q1n b st hB hT;have o0:(b.batches.map zh).length=b.batches.length:=Sx
  have cz:=hB.len;apply qd [];repeat' (first|apply Qa|(intro h;try exact cDd)|exact⟨Tryz.call18⟩|refine cpe i8 ?_|exact⟨Tryz.call26⟩|refine cpe e7 ?_|exact cSd2|apply qb []|refine exr ?_|refine qe ?_)
  refine zw (X:=Nat) (λk=>⟨[(4,.bx 0 0),(5,.a (qnu r.given)),(7,.tp 1),(8,.a (yh (qel b))),(23,.a (qb7 b.batches)),(24,.i b.batches.length),(25,.i k)],[(0,some (.cells 53 [.i b.gen,.s b.base,.a (qb7 b.batches),.a (yh b.ends),.s b.tail])),(1,some (.tip 6 49 ((logL (b.batches.take k) (r.given.take k)).map qle)))],2⟩) (λk=>k<=b.batches.length) (λk=>b.batches.length-k) 0 Om ?_ ?_
  .skip
   repeat' (first|apply Qa|(intro h;try exact cDd)|exact cSd2|apply qb []|refine exr ?_|refine qe ?_)
   all_goals first|rfl|(simp[logL];done)
  .rintro k hk
   by_cases e9:k<b.batches.length
   .have hx:b.batches[k]?=some b.batches[k]:=Qd e9
    have g9:(b.batches.map zh)[k]?=some (zh b.batches[k]):=by rw[Qc,hx];rfl
    have hy:r.given[k]?=some (r.given[k]'(by omega)):=Qd Om;have hym:(r.given.map yh)[k]?=some (yh (r.given[k]'(by omega))):=by rw[Qc,hy];rfl
    have hBx:=(hB.bat _ (Qf e9)).1;obtain⟨p,bq,hp2⟩:=zd8 hT hx;have hpm:((qel b).map λx=>Iv x)[k]?=some (Iv (p:Int)):=by rw[Qc,bq];rfl
    have hem:(b.ends.map λx=>Iv x)[k]?=some (Iv ((p:Int)+(recE b.batches[k]).length)):=by rw[Qc,hp2];rfl
    have dg:=zdq hT hx;have hgk:(r.given[k]'(by omega)).length<1000000:=zfs hp hB (Qf _);have pg:=q1x b.batches r.given k _ _ hx hy;have pn:(logL (b.batches.take k) (r.given.take k)).length=k:=by rw[q58 _ _ So];simp;omega
    generalize r.given[k]'(by omega)=g at hy hym hgk pg;generalize b.batches[k]=x at hx g9 hBx hem pg dg;have u0:=λst=>zjj x g ((recE x).length:Nat) st hBx.1 hgk;generalize(recE x).length=m at u0 hem pg dg;have hmp:((m:Nat):Int)=(p:Int)+m-p:=Om
    rw[hmp]at u0 pg;apply qd [];repeat' (first|apply Qa|(intro h;try exact cDd)|(refine Qb (k) ⟨Om,_,g9,?_⟩)|(refine Qb (k) ⟨Om,_,hym,?_⟩)|(refine Qb (k) ⟨Om,_,hem,?_⟩)|(refine Qb (k) ⟨Om,_,hpm,?_⟩)|exact⟨Tryz.call33⟩|refine cpe u0 ?_|(refine Qb (k+1) ⟨Om,Om,?_⟩)|exact cSd2|apply qb []|refine exr ?_|refine qe ?_)
    all_goals first|(rw[pg];simp;done)|(simp;omega)
   .have e9:k=b.batches.length:=by omega
    subst e9;rw[Qg,<-rg,Qg];rw[rg];apply qd [];repeat' (first|apply Qa|(intro h;try exact cDd)|exact cSd2|apply qb []|refine exr ?_|refine qe ?_)
 .have hu:logH text=((z8 text).1,[]):=by unfold logH;exact if_neg hr
  rw[hu];unfold qhw at i8;rw[if_neg hr]at i8;generalize(z8 text).1=e at i8 hr
  cases e with
  |no=>exact absurd rfl hr
  |num m=>
   apply qd []
   repeat' (first|apply Qa|(intro h;try exact cDd)|exact⟨Tryz.call18⟩|refine cpe i8 ?_|exact cSd2|apply qb []|refine exr ?_|refine qe ?_)
  |at' a m=>
   apply qd [];repeat' (first|apply Qa|(intro h;try exact cDd)|exact⟨Tryz.call18⟩|refine cpe i8 ?_|exact cSd2|apply qb []|refine exr ?_|refine qe ?_)
theorem zpq{b:jy}{n:Nat}{r:RunV}(h:jh b.base (b.batches.take n)=(.no,r)):lR b n=r.l:=by
 unfold lR;rw[if_pos (qnd h),h]
theorem zo8{x:List qm}(h:qem x):(∀st,qp E 28 [zh x] st λr st'=>r=Sv (encF x)∧st'=st)∧∀st,qp E 27 [Sv (encF x)] st λr st'=>r=Sv (recE x)∧st'=st:=
 ⟨λst=>qj8 x st h.B h.ok,λst=>qt8 (encF x) st h.len⟩
theorem q3e(text:qa)(n:Int)(st:List AObj)(hl:text.length<1000000):qp E 13 [Sv text,Iv n] st λr st'=>r=.tu [Sv (xk text n).2,Iv (xk text n).1.pos,Iv (xk text n).1.code]∧st'=st:=by
 refine ze [.s text,.i n] (yc (qr _) (qr _) (qr _)) Tryz.func13 rfl rfl (λ_=>rfl) rfl λS0=>?_;have i8:=λst=>qua text st hl;unfold qyn at i8;by_cases hr:(z8 text).1=.no
 .obtain⟨b,r,hT,hp,he⟩:=qd4 hr
  have hB:=qdz hT;rw[he]at i8;dsimp only at i8;rw[if_pos rfl]at i8;have o0:(b.batches.map zh).length=b.batches.length:=Sx
  have cz:=hB.len;generalize r.l=q2 at i8;by_cases hn:n<0∨(b.batches.length:Int)<n
  .have hu:xk text n=(.num 7,[]):=by
    unfold xk;rw[he];exact(if_pos rfl).trans (if_pos hn)
   rw[hu];apply qd [];repeat' (first|apply Qa|(intro h;try exact cDd)|exact⟨Tryz.call21⟩|refine cpe i8 ?_|exact cSd2|apply qb []|refine exr ?_|refine qe ?_)
  .obtain⟨m,rfl⟩:∃m:Nat,n=(m:Int):=⟨n.toNat,Om⟩
   have hu:xk text m=(.no,wb b m):=by
    unfold xk;rw[he];exact(if_pos rfl).trans ((if_neg hn).trans Sx)
   rw[hu]
   have sw:(wb b b.batches.length).length+b.tail.length=text.length:=by
    have:=congrArg Qk (qwr hT b.batches.length);simp only[List.drop_length,Qh,vf,List.flatMap_nil,Qu,Qx]at this;omega
   have hbt:text.take (wb b m).length=wb b m:=qi0 hT m
   have d7:(wb b m).length<=text.length:=by
    have:=congrArg Qk hbt;rw[Qi]at this;omega
   apply qd [];repeat' (first|apply Qa|(intro h;try exact cDd)|exact⟨Tryz.call21⟩|refine cpe i8 ?_|exact cSd2|apply qb []|refine exr ?_|refine qe ?_)
   refine zw (X:=Nat) (λk=>⟨[(0,.s text),(1,.i m),(7,.bx 0 0),(11,.i (wb b k).length),(12,.i ((k:Int)-1))],[(0,some (.cells 65 [.i b.gen,.s b.base,.a (qb7 b.batches),.a (yh b.ends),.s b.tail]))],1⟩) (λk=>m<=k∧k<=b.batches.length) (λk=>k) b.batches.length ⟨Om,Om⟩ ?_ ?_
   .skip
    repeat' (first|apply Qa|(intro h;try exact cDd)|exact cSd2|apply qb []|refine exr ?_|refine qe ?_)
    all_goals first|rfl|exact congrArg (λn:Int=>Iv n) Om
   .rintro k ⟨bn,s8⟩
    by_cases hkm:k=m
    .subst hkm
     generalize(wb b k).length=p at *;rw[<-hbt];apply qd [];repeat' (first|apply Qa|(intro h;try exact cDd)|(refine Qb p ⟨Om,?_⟩)|exact cSd2|apply qb []|refine exr ?_|refine qe ?_)
    .obtain⟨k,rfl⟩:∃j,k=j+1:=⟨k-1,Om⟩
     have hx:b.batches[k]?=some b.batches[k]:=Qd Om;have g9:(b.batches.map zh)[k]?=some (zh b.batches[k]):=by rw[Qc,hx];rfl
     have hgd:=hT.good _ (Qf (show k<b.batches.length by omega));have hbn:=qwq hx
     have gx:(wb b (k+1)).length<=text.length:=by
      have:=congrArg Qk (qi0 hT (k+1));rw[Qi]at this;omega
     generalize b.batches[k]=x at hx g9 hgd hbn;obtain⟨u0,tw⟩:=zo8 hgd;apply qd [];repeat' (first|apply Qa|(intro h;try exact cDd)|(refine Qb (k) ⟨Om,_,g9,?_⟩)|exact⟨Tryz.call28⟩|refine cpe u0 ?_|exact⟨Tryz.call27⟩|refine cpe tw ?_|(refine Qb k ⟨⟨Om,Om⟩,Om,?_⟩)|exact cSd2|apply qb []|refine exr ?_|refine qe ?_)
     all_goals first|rfl|exact congrArg (λn:Int=>Iv n) Om
 .have hu:xk text n=((z8 text).1,[]):=by unfold xk;exact if_neg hr
  have ck:=qjf hr;rw[hu];generalize z8 text=q at i8 ck hr;obtain⟨e,b,l⟩:=q;dsimp only at i8 ck hr⊢;rw[if_neg hr]at i8;generalize e.code=c at i8 ck;generalize e.pos=c2 at i8;apply qd [];repeat' (first|apply Qa|(intro h;try exact cDd)|exact⟨Tryz.call21⟩|refine cpe i8 ?_|exact cSd2|apply qb []|refine exr ?_|refine qe ?_)
end Go.Proofs.YtlekheifonaipaaGreatDoor
namespace Go.Pl
open Go Go.Proofs Go.Proofs.YtlekheifonaipaaGreatDoor
def qhi:List qm:=[⟨2,1,[]⟩,⟨3,0,[([66],[50])]⟩,⟨3,0,[([66],[50])]⟩]
end Go.Pl
namespace Go.Proofs.YtlekheifonaipaaGreatDoor
open Go Go.Av Go.RowKit Go.Proofs Go.Pl
theorem zen(st:List AObj):qp E 4 [] st λr st'=>r=Bv true∧st'=st:=by
 have hap:=λst=>zez qhh qhi st (by decide) (by simp[qhi];exact⟨⟨by simp[KeyB],Sx,Sx,Sx⟩,by simp[KeyB],Sx,Sx,Sx⟩) (by decide);have h1:(Go.Pl.appF qhh qhi).1=.no:=by decide +kernel
 have h2:(Go.Pl.appF qhh qhi).2.length<1000000:=by decide +kernel
 have h3:(logH (Go.Pl.appF qhh qhi).2).1=.no:=by decide +kernel
 have h4:((logH (Go.Pl.appF qhh qhi).2).2.map λe=>(e.del,e.ins,e.first,e.last))=[(1,2,2,3)]:=by decide +kernel
 have h5:(qam (Go.Pl.appF qhh qhi).2).1=.no:=by decide +kernel
 have h6:(qam (Go.Pl.appF qhh qhi).2).2.length<1000000:=by decide +kernel
 have h7:(z8 (qam (Go.Pl.appF qhh qhi).2).2).1=.no:=by decide +kernel
 have h8:qsz (z8 (qam (Go.Pl.appF qhh qhi).2).2).2.2=qhh:=by decide +kernel
 rw[h1]at hap;generalize(Go.Pl.appF qhh qhi).2=s at *;have hlg:=λst=>zop s st h2;have bf:=λst=>q1o s st h2;rw[h3]at hlg;rw[h5]at bf;generalize(qam s).2=t at *;have hrt:=λst=>zbn t st h6;unfold qym at hrt;simp only[h7]at hrt;obtain⟨hB,hI⟩:=zd3 t;have ht:=λst=>zm8 (z8 t).2.2 st (za0 hB hI) (q79 hB hI);rw[h8]at ht;generalize(z8 t).2.2=l at hrt ht;generalize(z8 t).2.1=b at hrt;generalize(logH s).2=L at *
 obtain⟨e,rfl⟩:∃e,L=[e]:=by
  cases L with
  |nil=>simp at h4
  |cons e r=>cases r with
   |nil=>exact⟨e,rfl⟩
   |cons _ _=>simp at h4
 simp only[Qp,Qr,Zb,Qo,and_true]at h4;obtain⟨q1,q2,q3,q4⟩:=h4;obtain⟨rep,del,ins,first,last,bytes⟩:=e;dsimp only at q1 q2 q3 q4;subst q1 q2 q3 q4;have hi0:[qle ⟨rep,1,2,2,3,bytes⟩][0]?=some (qle ⟨rep,1,2,2,3,bytes⟩):=rfl;replace hlg:∀st,qp E 15 [Sv s] st λr st'=>r=.tu [.sl 6 [qle ⟨rep,1,2,2,3,bytes⟩] none,errA .no]∧st'=st:=hlg;refine ze [] (qr _) Tryz.func4 rfl rfl (λ_=>rfl) rfl λS0=>?_;apply qd [];repeat' (first|apply Qa|(intro h;try exact cDd)|exact⟨Tryz.call14⟩|refine cpe hap ?_|exact⟨Tryz.call15⟩|refine cpe hlg ?_|exact⟨Tryz.call10⟩|refine cpe bf ?_|exact⟨Tryz.call16⟩|refine cpe hrt ?_|exact⟨Tryz.call17⟩|refine cpe ht ?_|(refine Qb (0) ⟨Om,_,hi0,?_⟩)|exact cSd2|apply qb []|refine exr ?_|refine qe ?_)
 all_goals first|rfl|(simp;done)
@[reducible] def qh0 (q : Int × Int) : AV := .ag [Iv q.1, Iv q.2]
theorem zg4(l:qs)(id:Int)(hl:l.ents.length<1000000):∃k raw,∀st,qp E 49 [ku l,Iv id] st λr st'=>r=.tu [.ag [Iv k,Sv raw,jd (qau l id)],Bv (decide (0<=atF l id))]∧st'=st:=by
 have h1:=λst=>qjd l id st hl;by_cases h:atF l id<0
 .rw[q1m h,decide_eq_false (by omega:¬0<=atF l id)]
  refine⟨0,[],λst=>?_⟩;refine ze [.a (ku l),.i id] (ju (ye (qef ⟨0,[],[]⟩)) (qr _)) Tryz.func49 rfl rfl (λ_=>rfl) rfl λS0=>?_;generalize atF l id=n at *;apply qd [];repeat' (first|apply Qa|(intro h;try exact cDd)|exact⟨Tryz.call98⟩|refine cpe h1 ?_|exact cSd2|apply qb []|refine exr ?_|refine qe ?_)
 .obtain⟨i,e,g1,g2,g3⟩:∃(i:Nat)(e:EntV),atF l id=(i:Int)∧l.ents[i]?=some e∧qau l id=e.x.fields:=by
   rcases qu3 l id with⟨g,_⟩|g
   .exact absurd g h
   .exact g
  rw[g3,decide_eq_true (by omega:0<=atF l id)];rw[g1]at h1;have hm:(l.ents.map entA)[i]?=some (entA e):=by rw[Qc,g2];rfl
  refine⟨e.x.kind,e.x.raw,λst=>?_⟩;refine ze [.a (ku l),.i id] (ju (ye (qef e.x)) (qr _)) Tryz.func49 rfl rfl (λ_=>rfl) rfl λS0=>?_;apply qd [];repeat' (first|apply Qa|(intro h;try exact cDd)|(refine Qb (i) ⟨Om,_,hm,?_⟩)|exact⟨Tryz.call98⟩|refine cpe h1 ?_|exact cSd2|apply qb []|refine exr ?_|refine qe ?_)
theorem qvj(P:List (Int×Int))(id:Int)(st:List AObj)(hl:P.length<1000000):qp E 50 [.sl 2 (P.map qh0) none,Iv id] st λr st'=>r=Iv (renP P id)∧st'=st:=by
 refine ze [.a (.sl 2 (P.map qh0) none),.i id] (qr _) Tryz.func50 rfl rfl (λ_=>rfl) rfl λS0=>?_;have o0:(P.map qh0).length=P.length:=Sx
 apply qd [];repeat' (first|apply Qa|(intro h;try exact cDd)|exact cSd2|apply qb []|refine exr ?_|refine qe ?_)
 refine zw (X:=Nat) (λk=>⟨[(0,.a (.sl 2 (P.map qh0) none)),(1,.i id),(5,.i ((k:Int)-1))],[],0⟩) (λk=>k<=P.length∧renP (P.take k) id=renP P id) (λk=>k) P.length ⟨Om,by rw[Qg]⟩ ?_ ?_
 .skip
  repeat' (first|apply Qa|(intro h;try exact cDd)|exact cSd2|apply qb []|refine exr ?_|refine qe ?_)
  all_goals first|rfl|(simp;done)
 .rintro k ⟨hk,a8⟩
  cases k with
  |zero=>
   have e:renP P id=id:=by rw[<-a8];rfl
   rw[e];apply qd []
   repeat' (first|apply Qa|(intro h;try exact cDd)|exact cSd2|apply qb []|refine exr ?_|refine qe ?_)
  |succ k=>
   have hx:P[k]?=some P[k]:=Qd Om;have g9:(P.map qh0)[k]?=some (qh0 P[k]):=by rw[Qc,hx];rfl
   rw[Ql,hx]at a8;generalize P[k]=q at hx g9 a8;obtain⟨a,b⟩:=q;have a8:renP (P.take k++[(a,b)]) id=renP P id:=a8;rw[q2i]at a8;by_cases h:id=a
   .rw[if_pos h]at a8
    rw[<-a8];subst h;apply qd5;repeat' (first|apply Qa|(intro h;try exact cDd)|(refine qim (id:=4) ?_)|(refine qim (id:=5) ?_)|(refine qsy [] ?_)|(refine locX (qog (i:=0) rfl rfl rfl rfl rfl rfl ?_))|(refine locX (qog (i:=1) rfl rfl rfl rfl rfl rfl ?_))|(refine locK ?_)|(refine Qb (k) ⟨Om,_,g9,?_⟩)|exact cSd2|apply qb []|refine exr ?_|refine qe ?_)
    all_goals first|rfl|omega|(simp;omega)
   .rw[if_neg h]at a8
    apply qd5;repeat' (first|apply Qa|(intro h;try exact cDd)|(refine qim (id:=4) ?_)|(refine qim (id:=5) ?_)|(refine qsy [] ?_)|(refine locX (qog (i:=0) rfl rfl rfl rfl rfl rfl ?_))|(refine locX (qog (i:=1) rfl rfl rfl rfl rfl rfl ?_))|(refine locK ?_)|(refine Qb (k) ⟨Om,_,g9,?_⟩)|(refine Qb k ⟨⟨Om,a8⟩,Om,?_⟩)|exact cSd2|apply qb []|refine exr ?_|refine qe ?_)
    all_goals first|rfl|omega|exact congrArg (λn:Int=>Iv n) Om|(simp;omega)
def befA(b:List qm)(l:qs)(k:Nat):List AV:=(Qz (k+1)).map λi=>ku (je (b.take i) l)
def idsA(b:List qm)(l:qs)(k:Nat):List AV:=(Qz k).map λi=>Iv (match b[i]?with
 |some x=>(oneF (je (b.take i) l) x).1
 |none=>0)
theorem q4u(b:List qm)(l:qs)(k:Nat):(befA b l k).length=k+1:=by simp[befA]
theorem q5y(b:List qm)(l:qs)(k:Nat):(idsA b l k).length=k:=by simp[idsA]
theorem qur(b:List qm)(l:qs){k i:Nat}(h:i<=k):(befA b l k)[i]?=some (ku (je (b.take i) l)):=by
 unfold befA;rw[Qc,Qq Om];rfl
theorem zjk{b:List qm}{l:qs}{k i:Nat}{x:qm}(h:i<k)(hx:b[i]?=some x):(idsA b l k)[i]?=some (Iv (oneF (je (b.take i) l) x).1):=by
 unfold idsA;rw[Qc,Qq h];simp only[Option.map_some,hx]
theorem ze0{b:List qm}{l:qs}{k:Nat}{x:qm}(h:b[k]?=some x):befA b l (k+1)=befA b l k++[ku (oneF (je (b.take k) l) x).2.2]:=by
 unfold befA;rw[Qv,Qw];simp only[Qp,Qr];rw[qv9 h]
theorem zf2{b:List qm}{l:qs}{k:Nat}{x:qm}(h:b[k]?=some x):idsA b l (k+1)=idsA b l k++[Iv (oneF (je (b.take k) l) x).1]:=by
 unfold idsA;rw[Qv,Qw];simp only[Qp,Qr,h]
set_option maxHeartbeats 4000000 in
theorem q9n(l:qs)(b:List qm)(st:List AObj)(hB:LB 860000 l)(hM:LM l)(hI:LI l)(hN:GN l)(hG:GL l)(hE:∀x∈b,EdB x)(hl:b.length<1000000)(hok:(doF l b).1=.no):qp E 23 [ku l,zh b] st λr st'=>r=zh (qae l b)∧st'=st:=by
 refine ze [.a (ku l),.a (zh b)] (qa4 _) Tryz.func23 rfl rfl (λ_=>rfl) rfl λS0=>?_;obtain⟨he,ht,ha⟩:=qp1 hok;obtain⟨p9,hb40,hg⟩:=qb0 he;have o0:(b.map zt).length=b.length:=Sx
 have lz:∀i,i<=b.length->LB (860000+i) (je (b.take i) l)∧LI (je (b.take i) l)∧LM (je (b.take i) l)∧GN (je (b.take i) l):=λi hi=>by
  have hli:(b.take i).length=i:=So
  have h1:=qk7 (b.take i) 860000 l hB Om;rw[hli]at h1;exact⟨h1,qug _ _ hI,q35 _ _ _ hM hB Om,qoc _ _ hN⟩
 have gx:qae l b=qiz (w9 b l).reverse [] (je b l).next:=by
  unfold qae;rw[ha];exact(quq _ [] [] _ zkt).symm
 rw[gx];apply qd [21];repeat' (first|apply Qa|(intro h;try exact cDd)|exact cSd2|apply qb [21]|refine exr ?_|refine qe ?_)
 refine zw (X:=Nat) (λk=>⟨[(1,.a (zh b)),(5,.tp 0),(6,.tp 1),(7,.i k)],[(0,some (.tip 2 68 (befA b l k))),(1,some (.tip 1 3 (idsA b l k)))],2⟩) (λk=>k<=b.length) (λk=>b.length-k) 0 Om ?_ ?_
 .skip
  repeat' (first|apply Qa|(intro h;try exact cDd)|exact cSd2|apply qb []|refine exr ?_|refine qe ?_)
  all_goals first|rfl|(simp[befA,idsA];done)
 .rintro k hk
  by_cases e9:k<b.length
  .have hx:b[k]?=some b[k]:=Qd e9
   have g9:(b.map zt)[k]?=some (zt b[k]):=by rw[Qc,hx];rfl
   have hxE:=hE b[k] (Qf e9);have hxf:=(qfe (hg b[k] (Qf e9))).1;obtain⟨g1,g2,g3,g4⟩:=lz k hk;have cz:=q4u b l k;have fc:=q5y b l k;have nj:=qur b l (Qs k);have dp:=ze0 (l:=l) hx;have his:=zf2 (l:=l) hx;generalize b[k]=x at hx g9 hxE hxf dp his;have gv:=λst=>qyh (860000+k) (je (b.take k) l) x st g1 g3 hxE.keys Om;generalize oneF (je (b.take k) l) x=o at gv dp his;apply qd [];repeat' (first|apply Qa|(intro h;try exact cDd)|(refine Qb (k) ⟨Om,_,g9,?_⟩)|(refine Qb (k) ⟨Om,_,nj,?_⟩)|exact⟨Tryz.call48⟩|refine cpe gv ?_|(refine Qb (k+1) ⟨Om,Om,?_⟩)|exact cSd2|apply qb []|refine exr ?_|refine qe ?_)
   all_goals first|(rw[dp];done)|(rw[his];done)|omega
  .have e9:k=b.length:=by omega
   subst e9;have cz:=q4u b l b.length;have fc:=q5y b l b.length;have nj:=qur b l (Qs b.length);rw[Qg]at nj;apply qd [];repeat' (first|apply Qa|(intro h;try exact cDd)|(refine Qb (b.length) ⟨Om,_,nj,?_⟩)|exact cSd2|apply qb []|refine exr ?_|refine qe ?_)
   refine zw (X:=Nat×List qm×List (Int×Int)×Int) (λ(k,out,P,n)=>⟨[(1,.a (zh b)),(5,.a (.sl 2 (befA b l b.length) none)),(6,.a (.sl 1 (idsA b l b.length) none)),(11,.i n),(12,.tp 0),(13,.tp 1),(14,.i ((k:Int)-1))],[(0,some (.tip 2 132 (P.map qh0))),(1,some (.tip 3 44 (out.map zt)))],2⟩)
    (λ(k,out,P,n)=>k<=b.length∧out.length+k=b.length∧P.length<=out.length∧0<=n∧n<=900000+(out.length:Int)∧out++qiz ((w9 b l).take k).reverse P n=qiz (w9 b l).reverse [] (je b l).next) (λ(k,_,_,_)=>k) (b.length,[],[],(je b l).next) ⟨Om,Sx,Sx,?_,?_,by rw[List.take_of_length_le (by rw[qhe];omega)];rfl⟩ ?_ ?_
   .have:=(qk7 b 860000 l hB Om).nx0
    omega
   .have:=(qk7 b 860000 l hB Om).nx1
    simp;omega
   .skip
    repeat' (first|apply Qa|(intro h;try exact cDd)|exact cSd2|apply qb []|refine exr ?_|refine qe ?_)
    all_goals first|rfl|(simp;done)
   .rintro⟨k,out,P,n⟩ ⟨h1,h2,h3,h4,h5,h6⟩
    cases k with
    |zero=>
     have h6:out++[]=_:=h6;rw[List.append_nil]at h6;rw[<-h6];apply qd []
     repeat' (first|apply Qa|(intro h;try exact cDd)|exact cSd2|apply qb []|refine exr ?_|refine qe ?_)
    |succ k=>
     have hx:b[k]?=some b[k]:=Qd Om;have g9:(b.map zt)[k]?=some (zt b[k]):=by rw[Qc,hx];rfl
     have lg:=hg b[k] (Qf Om);obtain⟨g1,g2,g3,g4⟩:=lz k Om;have rm:=qvu b l ht k _ hx;have nj:=qur b l (show k<=b.length by omega);have hig:=zjk (l:=l) (show k<b.length by omega) hx;have hrs:=qn7 (l:=l) hx;generalize b[k]=x at hx g9 lg rm hig hrs;obtain⟨m1,m2⟩:=zbf g4 rm lg;rw[hrs,qiz]at h6;have hql:(je (b.take k) l).ents.length<1000000:=by have:=g1.len;omega
     generalize hq:je (b.take k) l=q at *;obtain⟨kk,raw,d8⟩:=zg4 q x.id hql;have mw:(out.map zt).length=out.length:=Sx
     have dx:(P.map qh0).length=P.length:=Sx
     have pg:∀(a:qm),(out++[a]).map zt=out.map zt++[zt a]:=λa=>by simp
     have r9:∀(a:Int×Int),(P++[a]).map qh0=P.map qh0++[qh0 a]:=λa=>by simp
     rcases qrb lg with hk|hk|hk
     .have e7:yi q x=⟨1,x.id,qau q x.id,qbp q x.id⟩:=by
       unfold yi;rw[m2 Om,if_neg Om,hk]
      rw[e7,if_pos rfl]at h6;have hrn:=λst=>qvj P x.id st Om;generalize qau q x.id=fl at *;apply qd [];repeat' (first|apply Qa|(intro h;try exact cDd)|(refine Qb (k) ⟨Om,_,g9,?_⟩)|(refine Qb (k) ⟨Om,_,nj,?_⟩)|exact⟨Tryz.call49⟩|refine cpe d8 ?_|exact⟨Tryz.call50⟩|refine cpe hrn ?_|(refine Qb (k,out++[⟨1,renP P x.id,fl⟩],P,n) ⟨⟨Om,So,So,h4,So,by rw[<-h6];simp⟩,by simp only;omega,?_⟩)|exact cSd2|apply qb []|refine exr ?_|refine qe ?_)
      all_goals first|rfl|(rw[pg];done)|omega|exact congrArg (λn:Int=>Iv n) Om|(simp;omega)
     .have e7:yi q x=⟨2,x.id,qau q x.id,qbp q x.id⟩:=by
       unfold yi;rw[m2 Om,if_neg Om,hk]
      rw[e7,if_neg Sx,if_pos rfl]at h6;have hplc:=λst=>q7o q x.id st hql;have hstz:=λst=>qn3 q st hql;have hrn:=λst=>qvj P (qbp q x.id) st Om;generalize qau q x.id=fl at *;rcases qs7 q x.id with⟨e1,e2⟩|⟨i,s,e1,e2,e3⟩
      .rw[e2]at hrn h6
       generalize qf4 q x.id=pp at *;apply qd5;repeat' (first|apply Qa|(intro h;try exact cDd)|(refine qim (id:=26) ?_)|(refine qsy [] ?_)|(refine locX (q0q rfl rfl rfl rfl ?_))|(refine locK ?_)|(refine Qb (k) ⟨Om,_,g9,?_⟩)|(refine Qb (k) ⟨Om,_,nj,?_⟩)|exact⟨Tryz.call49⟩|refine cpe d8 ?_|exact⟨Tryz.call51⟩|refine cpe hplc ?_|exact⟨Tryz.call50⟩|refine cpe hrn ?_|(refine Qb (k,out++[⟨3,renP P 0,fl⟩],P++[(x.id,n)],n+1) ⟨⟨Om,So,So,Om,So,by rw[<-h6];simp⟩,by simp only;omega,?_⟩)|exact cSd2|apply qb []|refine exr ?_|refine qe ?_)
       all_goals first|rfl|(rw[pg];done)|(rw[r9];done)|omega|exact congrArg (λn:Int=>Iv n) Om|(simp;omega)
      .rw[e3]at hrn h6
       rw[e1]at hplc;have hsm:((stzF q.ents).map stzA)[i]?=some (stzA s):=by rw[Qc,e2];rfl
       have hil2:=lt_of_getElem? hsm;have hil3:=qpx q.ents;rw[List.length_map]at hil2;apply qd5;repeat' (first|apply Qa|(intro h;try exact cDd)|(refine qim (id:=26) ?_)|(refine qsy [] ?_)|(refine locX (q0q rfl rfl rfl rfl ?_))|(refine locK ?_)|(refine Qb (k) ⟨Om,_,g9,?_⟩)|(refine Qb (k) ⟨Om,_,nj,?_⟩)|(refine Qb (i) ⟨Om,_,hsm,?_⟩)|exact⟨Tryz.call49⟩|refine cpe d8 ?_|exact⟨Tryz.call51⟩|refine cpe hplc ?_|exact⟨Tryz.call52⟩|refine cpe hstz ?_|exact⟨Tryz.call50⟩|refine cpe hrn ?_|(refine Qb (k,out++[⟨3,renP P s.1,fl⟩],P++[(x.id,n)],n+1) ⟨⟨Om,So,So,Om,So,by rw[<-h6];simp⟩,by simp only;omega,?_⟩)|exact cSd2|apply qb []|refine exr ?_|refine qe ?_)
       all_goals first|rfl|(rw[pg];done)|(rw[r9];done)|omega|exact congrArg (λn:Int=>Iv n) Om|(simp;omega)
     .have e7:yi q x=⟨3,(oneF q x).1,qau q x.id,qbp q x.id⟩:=by
       unfold yi;rw[if_pos (m1 hk),hk]
      rw[e7,if_neg Sx,if_neg Sx]at h6;have hrn:=λst=>qvj P (oneF q x).1 st Om;generalize(oneF q x).1=nid at *;apply qd [];repeat' (first|apply Qa|(intro h;try exact cDd)|(refine Qb (k) ⟨Om,_,g9,?_⟩)|(refine Qb (k) ⟨Om,_,nj,?_⟩)|(refine Qb (k) ⟨Om,_,hig,?_⟩)|exact⟨Tryz.call49⟩|refine cpe d8 ?_|exact⟨Tryz.call50⟩|refine cpe hrn ?_|(refine Qb (k,out++[⟨2,renP P nid,[]⟩],P,n) ⟨⟨Om,So,So,h4,So,by rw[<-h6];simp⟩,by simp only;omega,?_⟩)|exact cSd2|apply qb []|refine exr ?_|refine qe ?_)
      all_goals first|rfl|(rw[pg];done)|(rw[pg];rfl)|omega|exact congrArg (λn:Int=>Iv n) Om|(simp;done)|(simp;omega)
theorem qp4{text:qa}(h:(we text).1≠.no):(we text).1.code≠0:=by
 unfold we at h⊢;split
 .rename_i hr
  rw[if_pos hr]at h;split
  .exact(by decide:(7:Int)≠0)
  .rename_i x hx
   rw[hx]at h;exact absurd rfl h
 .rename_i hr
  exact qjf hr
theorem qub(text:qa)(st:List AObj)(hl:text.length<1000000):qp E 6 [Sv text] st λr st'=>r=.tu [zh (we text).2,Iv (we text).1.pos,Iv (we text).1.code]∧st'=st:=by
 refine ze [.s text] (yc (qa4 _) (qr _) (qr _)) Tryz.func6 rfl rfl (λ_=>rfl) rfl λS0=>?_;have i8:=λst=>qua text st hl;unfold qyn at i8;by_cases hr:(z8 text).1=.no
 .obtain⟨b,r,hT,hp,he⟩:=qd4 hr
  have hB:=qdz hT;rw[he]at i8;dsimp only at i8;rw[if_pos rfl]at i8;by_cases hb:b.batches=[]
  .have hu:we text=(.num 7,[]):=by
    unfold we;rw[he];simp only[hb];rfl
   rw[hu];have o0:(b.batches.map zh).length=0:=by rw[hb];rfl
   generalize r.l=q at i8;apply qd [];repeat' (first|apply Qa|(intro h;try exact cDd)|exact⟨Tryz.call21⟩|refine cpe i8 ?_|exact cSd2|apply qb []|refine exr ?_|refine qe ?_)
  .have dp:b.batches=b.batches.dropLast++[b.batches.getLast hb]:=(Qe hb).symm
   generalize b.batches.dropLast=bs at dp;generalize b.batches.getLast hb=x at dp;obtain⟨r1,h1,h2,h3,h4⟩:=qvy hT dp hp;obtain⟨hn,rg,nv,hlm,hli,hbh⟩:=qu9 hB dp h1;have o0:(b.batches.map zh).length=bs.length+1:=by rw[dp];simp
   have hix:(b.batches.map zh)[bs.length]?=some (zh x):=by rw[dp];simp
   have hBx:=(hB.bat x (by rw[dp];simp)).1;have hb14:=hB.len;have i7:b.batches.take bs.length=bs:=by rw[dp];simp
   have s6:=λst=>qqi b bs.length st hB (by rw[dp];simp);have hlr:lR b bs.length=r1.l:=zpq (by rw[i7];exact h1);rw[hlr,i7,h1]at s6;rw[show((bs.length:Nat):Int)=(((b.batches.map zh).length:Nat):Int)-1 by omega]at s6;have hba:=λst=>q9n r1.l x st nv hlm hli hn rg hBx.2 hBx.1 h2;rw[h4];generalize qae r1.l x=bk at hba;generalize r1.l=q at hba s6;generalize gR b bs.length=g at s6;generalize r.l=q2 at i8;apply qd [];repeat' (first|apply Qa|(intro h;try exact cDd)|exact⟨Tryz.call21⟩|refine cpe i8 ?_|exact⟨Tryz.call22⟩|refine cpe s6 ?_|(refine Qb (bs.length) ⟨Om,_,hix,?_⟩)|exact⟨Tryz.call23⟩|refine cpe hba ?_|exact cSd2|apply qb []|refine exr ?_|refine qe ?_)
 .have hu:we text=((z8 text).1,[]):=by unfold we;exact if_neg hr
  have ck:=qjf hr;rw[hu];generalize z8 text=q at i8 ck hr;obtain⟨e,b,l⟩:=q;dsimp only at i8 ck hr⊢;rw[if_neg hr]at i8;generalize e.code=c at i8 ck;generalize e.pos=c2 at i8;apply qd [];repeat' (first|apply Qa|(intro h;try exact cDd)|exact⟨Tryz.call21⟩|refine cpe i8 ?_|exact cSd2|apply qb []|refine exr ?_|refine qe ?_)
theorem q3h(text:qa)(st:List AObj)(hl:text.length<1000000):qp E 11 [Sv text] st λr st'=>r=.tu [Sv (qam text).2,Iv (qam text).1.pos,Iv (qam text).1.code]∧st'=st:=by
 refine ze [.s text] (yc (qr _) (qr _) (qr _)) Tryz.func11 rfl rfl (λ_=>rfl) rfl λS0=>?_;have hu:=λst=>qub text st hl;unfold qam;have hok:=@qvz text;have ck:=@qp4 text;generalize we text=q at hu hok ck;obtain⟨e,x⟩:=q;dsimp only at hu hok ck⊢;by_cases he:e=.no
 .subst he
  obtain⟨g1,g2,_⟩:=hok rfl;have hap:=λst=>zdt text x st hl g1 Om;rw[if_pos rfl];generalize Go.Pl.appF text x=p at hap;obtain⟨e2,t⟩:=p;dsimp only at hap⊢;generalize e2.code=c at hap;generalize e2.pos=c2 at hap;apply qd [];repeat' (first|apply Qa|(intro h;try exact cDd)|exact⟨Tryz.call6⟩|refine cpe hu ?_|exact⟨Tryz.call25⟩|refine cpe hap ?_|exact cSd2|apply qb []|refine exr ?_|refine qe ?_)
 .have ck:=ck he
  rw[if_neg he];dsimp only;generalize e.code=c at hu ck;generalize e.pos=c2 at hu;apply qd [];repeat' (first|apply Qa|(intro h;try exact cDd)|exact⟨Tryz.call6⟩|refine cpe hu ?_|exact cSd2|apply qb []|refine exr ?_|refine qe ?_)
end Go.Proofs.YtlekheifonaipaaGreatDoor
namespace Go.Pl
open Go Go.Proofs Go.Proofs.YtlekheifonaipaaGreatDoor
theorem zeq{text:qa}{x:List qm}(h:(appF text x).1≠.no):(appF text x).1.code≠0:=by
 unfold appF at h⊢;split
 .split
  .rename_i hb _ he
   rw[hb]at h;simp only[he]at h;split
   .exact(by decide:(11:Int)≠0)
   .rename_i h1
    rw[if_neg h1]at h;split
    .exact(by decide:(11:Int)≠0)
    .rename_i h2
     rw[if_neg h2]at h;exact absurd rfl h
  .rename_i he
   exactλh'=>he ((qdr x).1 h')
 .rename_i hb
  exact qkj hb
theorem q94(text:qa):(we text).2.length<1000000∧∀y∈(we text).2,y.fields.length<1000000:=by
 by_cases h:(we text).1=.no
 .obtain⟨h1,h2,h3⟩:=qvz h
  exact⟨Om,λy hy=>by have:=h3 y hy;omega⟩
 .have:(we text).2=[]:=by
   unfold we at h⊢;split
   .rename_i hr
    rw[if_pos hr]at h;split
    .rfl
    .rename_i x hx
     rw[hx]at h;exact absurd rfl h
   .rfl
  rw[this];exact⟨Sx,Sx⟩
theorem q8d{text:qa}(h:(qam text).1≠.no):(qam text).1.code≠0:=by
 unfold qam at h⊢;split
 .rename_i hu
  rw[if_pos hu]at h;exact zeq h
 .rename_i hu
  exact qp4 hu
theorem q4v{text:qa}{n:Int}(h:(xk text n).1≠.no):(xk text n).1.code≠0:=by
 unfold xk at h⊢;split
 .rename_i hr
  rw[if_pos hr]at h;split
  .exact(by decide:(7:Int)≠0)
  .rename_i hn
   rw[if_neg hn]at h;exact absurd rfl h
 .rename_i hr
  exact qjf hr
end Go.Pl
namespace Go.Proofs.YtlekheifonaipaaGreatDoor
open Go Go.Av Go.RowKit Go.Proofs Go.Pl
set_option maxHeartbeats 20000000 in
theorem zli(text:qa)(n:Int)(st:List AObj):qp E 3 [Sv text,Iv n] st λr st'=>r=Bv true∧st'=st:=by
 refine ze [.s text,.i n] (qr _) Tryz.func3 rfl rfl (λ_=>rfl) rfl λS0=>?_;have hal:=zen;by_cases h4:4000<text.length
 .apply qd []
  repeat' (first|apply Qa|(intro h;try exact cDd)|exact⟨Tryz.call4⟩|refine cpe hal ?_|exact cSd2|apply qb []|refine exr ?_|refine qe ?_)
 have hu:=λst=>zau text st Om;have hu2:=λst=>qub text st Om;have hd:=λst=>q1o text st Om;have hd2:=λst=>q3h text st Om;have hb:=λst=>zfx text n st Om;have t8:=λst=>q3e text n st Om;have k1:=q6t (@qp4 text);have k2:=q6t (@q8d text);have k3:=q6t (@q4v text n);obtain⟨z1,z2⟩:=q94 text;have hes:=λst=>q83 (we text).2 st z1 z2;generalize we text=q1 at *;generalize qam text=q2 at *;generalize xk text n=q3 at *;obtain⟨e1,b⟩:=q1;obtain⟨e2,s⟩:=q2;obtain⟨e3,t⟩:=q3;dsimp only at *;have n1:=λst=>q6j e1 st k1;have n2:=λst=>q6j e2 st k2;have n3:=λst=>q6j e3 st k3;have a1:=λst=>zcd e1 st;have a2:=λst=>zcd e2 st;have a3:=λst=>zcd e3 st
 cases e1<;>cases e2<;>cases e3
 all_goals
  apply qd [];repeat' (first|apply Qa|(intro h;try exact cDd)|exact⟨Tryz.call4⟩|refine cpe hal ?_|exact⟨Tryz.call5⟩|refine cpe hu ?_|exact⟨Tryz.call6⟩|refine cpe hu2 ?_|exact⟨Tryz.call7⟩|refine cpe hes ?_|exact⟨Tryz.call8⟩|refine cpe n1 ?_|exact⟨Tryz.call9⟩|refine cpe a1 ?_|exact⟨Tryz.call10⟩|refine cpe hd ?_|exact⟨Tryz.call11⟩|refine cpe hd2 ?_|exact⟨Tryz.call8⟩|refine cpe n2 ?_|exact⟨Tryz.call9⟩|refine cpe a2 ?_|exact⟨Tryz.call12⟩|refine cpe hb ?_|exact⟨Tryz.call13⟩|refine cpe t8 ?_|exact⟨Tryz.call8⟩|refine cpe n3 ?_|exact⟨Tryz.call9⟩|refine cpe a3 ?_|exact cSd2|apply qb []|refine exr ?_|refine qe ?_)
  all_goals first|rfl|(simp;done)
theorem zlh(text:qa)(n:Int)(hc: -9223372036854775808<=n∧n<=9223372036854775807)(st:List AObj):qp E 3 [Sv text,Iv n] st λr st'=>r=Bv true∧st'=st:=zli text n st
end Go.Proofs.YtlekheifonaipaaGreatDoor
