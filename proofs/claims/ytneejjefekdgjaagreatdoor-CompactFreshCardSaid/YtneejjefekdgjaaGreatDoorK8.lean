/- Contracts and plain facts that the closing text leans on (part 8). No condition of their own beyond those that each states. -/
import Derived.Test.YtneejjefekdgjaaGreatDoorK7
import Derived.Lib.SliceRun
set_option maxRecDepth 100000
set_option linter.unusedVariables false
set_option linter.unusedSimpArgs false
namespace Go.Pl
open Go Go.Proofs Go.Proofs.YtneejjefekdgjaaGreatDoor
theorem qus:∀ (n:Nat) (l:qa) (k a:Nat),l.length≤n→∀ x∈vk k a l,x.text.length≤l.length
 |n,l,k,a,hn,x,hx=>by
  by_cases h:l=[]
  ·subst h;rw [qau] at hx;simp at hx
  ·have b4:=xq (c:=10) h
   cases n with
   |zero=>omega
   |succ n=>
    rw [qay h] at hx;rcases List.mem_cons.1 hx with rfl|hx
    ·exact kz 10 l
    ·have:=qus n (past 10 l) (k+1) (a+(upto 10 l).length+1) (by omega) x hx
     omega
theorem q0e {out:List qr} {e:qr} {f:Fld} (h:out[out.length - 1]? = some e):addF out f=out.set (out.length - 1) ⟨e.kind,e.id,e.fields++[f]⟩:=by
 have hl:out.getLast? = some e:=by rw [List.getLast?_eq_getElem?];exact h
 have a6:out≠[]:=fun e0=>by subst e0;simp at hl
 unfold addF;rw [hl];have hd:=qra hl;simp only;generalize hq:out.dropLast=q at hd;subst hd;simp
theorem qqy (out:List qr) (f:Fld):(addF out f).length=out.length:=by
 unfold addF
 cases h:out.getLast? with
 |none=>rfl
 |some x=>
  have a6:out≠[]:=fun e0=>by subst e0;simp at h
  have:=List.length_pos_iff.2 a6;simp;omega
def qz6 (l:qa) (r:List qa) (o:List qr) (h:List qa):Option (List qr):=
 if [32,32] <+: l then if o=[] then none else ku r o (h++[l.drop 2])
 else match begR l with
  |none=>none
  |some (k,n)=>if 40≤o.length then none else ku r (o++[⟨k,n,[]⟩]) h
def qd2 (a8:List qa):List qa→Bool
 | []=>decide (a8≠[])
 |l::_=>decide (a8≠[]∧¬ [32,32,32] <+: l)
def qod (R:List qa) (out:List qr) (a8:List qa) (o:List qr) (h:List qa):Prop:=
 if qd2 a8 R=true then qaa out a8=some o∧h=[] else o=out∧h=a8
theorem q7e {l:qa} {r:List qa} {out o:List qr} {a8 h:List qa} (e:qod (l::r) out a8 o h):ku (l::r) out a8=qz6 l r o h∧(h=[]∨[32,32,32] <+: l):=by
 unfold qod at e;rw [ku];by_cases hc:a8≠[]∧¬ [32,32,32] <+: l
 ·rw [if_pos (by simp [qd2,hc.1,hc.2])] at e
  rw [if_pos hc,e.1,e.2];exact⟨rfl,.inl rfl⟩
 ·rw [if_neg (by simpa [qd2] using hc)] at e
  rw [if_neg hc,e.1,e.2];refine⟨rfl,?_⟩;by_cases h0:a8=[]
  ·exact .inl h0
  ·exact .inr (Classical.byContradiction fun h=>hc ⟨h0,h⟩)
theorem q1t {R:List qa} {out:List qr} {a8:List qa} (h:qd2 a8 R=true) (hu:(zr a8).2≠0):ku R out a8=none:=by
 cases R with
 |nil=>
  have h0:a8≠[]:=of_decide_eq_true h;rw [ku];unfold qaa
  rw [if_neg h0,if_neg hu]
 |cons l q=>
  obtain⟨h0,hl⟩:a8≠[]∧¬ [32,32,32] <+: l:=of_decide_eq_true h;have hf:qaa out a8=none:=by unfold qaa;rw [if_neg h0,if_neg hu]
  rw [ku,if_pos ⟨h0,hl⟩,hf];rfl
theorem q1u {out:List qr} {a8:List qa} (h0:a8≠[]) (hu:(zr a8).2=0):qaa out a8=some (addF out (zr a8).1):=by
 unfold qaa;rw [if_neg h0,if_pos hu]
def qjg (l:qa):Nat→Option (Int×Int)
 | 0=>none
 |j+1=>tryR l (qjg l j) ((j:Int)+1)
theorem q5u (l:qa):qjg l 3=begR l:=rfl
end Go.Pl
namespace Go.Proofs.YtneejjefekdgjaaGreatDoor
open Go Go.Av Go.RowKit Go.Proofs Go.Pl
theorem q3c (x:Option (List qr)):Pure (qct x):=by
 rcases x with _|b
 ·exact jg (qe5 _) (qq _)
 ·exact jg (qe5 _) (qq _)
theorem q26 (l w:qa) (b:Bool) (h:decide (w <+: l)=b) (st:List AObj):qo E 251 [Sv l,Sv w] st fun r st'=>r=Bv b∧st'=st:=h▸qlt l w st
def qmk (l:qa) (j:Nat) (a b:Int):Prop:=(a=0∧b=0∧qjg l j=none)∨(1≤a∧qjg l j=some (a,b))
set_option maxHeartbeats 8000000 in
theorem q48 (text:qa) (st:List AObj) (hl:text.length<1000000):qo E 180 [Sv text] st fun r st'=>r=qct (decF text)∧st'=st:=by
 refine zg [.s text] (q3c _) Tryz.func180 rfl rfl (fun _=>rfl) rfl fun S0=>?_;rw [← zb2];by_cases l8:50000<text.length
 ·have hd:qcu text=none:=if_pos l8
  rw [hd];unfold qct;apply qd [];repeat' (first|apply And.intro|(intro h;try exact cDd)|exact cSd|apply qb []|refine exr ?_|refine qe ?_)
 have d7:qcu text=match ku ((lns text).map fun x=>x.text) [] [] with
  |none=>none
  |some b=>if eErr b = .no∧encF b=text then some b else none:=if_neg l8
 have g9:=fun st=>qjb text st (by omega);have hlm:((lns text).map lnA).length=(lns text).length:=by simp
 have lg:(lns text).length≤text.length:=qcz _ text 0 0 (Nat.le_refl _);have dj:=qus _ text 0 0 (Nat.le_refl _);have b4:∀ x∈lns text,x.text.length≤text.length:=dj;have h0i:Lib.itoa 0=[48]:=by rw [qfq (by decide),Lib.decDigits_one (by decide)];rfl
 generalize lns text=L at *;clear dj;apply qd [];repeat' (first|apply And.intro|(intro h;try exact cDd)|exact⟨Tryz.call137⟩|refine cpe g9 ?_|exact cSd|apply qb []|refine exr ?_|refine qe ?_)
 refine zw (X:=Nat×List qr×List qa) (fun (k,out,a8)=>⟨[(0,.s text),(4,.tp 0),(5,.tp 1),(6,.a (lnsA L)),(7,.i k)],[(0,some (.own 3 113 (out.map ji))),(1,some (.tip 1 9 (a8.map fun x=>Sv x)))],2⟩)
  (fun (k,out,a8)=>OutG out k∧out.length≤40∧a8.length≤k∧k≤L.length+1∧(a8≠[]→out≠[])∧(∀ s∈a8,s.length<1000000) ∧
   ((k≤L.length∧ku ((L.map fun x=>x.text).drop k) out a8=ku (L.map fun x=>x.text) [] [])∨(k=L.length+1∧ku (L.map fun x=>x.text) [] []=some out)))
  (fun (k,out,a8)=>L.length+1 - k) (0,[],[]) ⟨by intro x hx;simp at hx,by simp,by simp,by omega,by simp,by simp,.inl ⟨by omega,rfl⟩⟩ ?_ ?_
 ·skip
  repeat' (first|apply And.intro|(intro h;try exact cDd)|exact cSd|apply qb []|refine exr ?_|refine qe ?_)
  all_goals (simp;done)
 ·rintro⟨k,out,a8⟩ ⟨hG,sg,hh,hk,a6,hhb,hR⟩
  have hmo:(out.map ji).length=out.length:=by simp
  have hmh:(a8.map fun x=>Sv x).length=a8.length:=by simp
  rcases hR with⟨hk,hR⟩ | ⟨rfl,hR⟩
  ·have n6:=fun st=>qkc a8 st ⟨by omega,hhb⟩
   unfold qb8 at n6;by_cases b8:k=L.length
   ·-- the end: what is a8 is flushed
    rw [b8,List.drop_of_length_le (by simp)] at hR;by_cases h0:a8=[]
    ·subst h0
     rw [ku] at hR;unfold qaa at hR;rw [if_pos rfl] at hR;apply qd [];repeat' (first|apply And.intro|(intro h;try exact cDd)|(refine Exists.intro (k+1,out,[]) ⟨⟨hG.mono (by omega),sg,by simp,by omega,by simp,by simp,.inr ⟨by omega,hR.symm⟩⟩,by simp only;omega,?_⟩)|exact cSd|apply qb []|refine exr ?_|refine qe ?_)
     all_goals (simp;done)
    ·have hz:0<a8.length:=List.length_pos_iff.2 h0
     have rz:0<out.length:=List.length_pos_iff.2 (a6 h0);by_cases hu:(zr a8).2=0
     ·have rb:=qh2 hu
      rw [ku,q1u h0 hu] at hR;rw [hu] at n6;generalize (zr a8).1=f at rb n6 hR;obtain⟨e,he⟩:∃ e,out[out.length - 1]? = some e:=⟨_,List.getElem?_eq_getElem (by omega)⟩;have heA:(out.map ji)[out.length - 1]? = some (ji e):=by simp [he]
      have hef:=(hG e (List.mem_of_getElem? he)).2.1;have hmf:(e.fields.map fldA).length=e.fields.length:=by simp
      have i9:=q0e (f:=f) he;have sm:=qqy out f;obtain⟨fk,fv⟩:=f;apply qd [];repeat' (first|apply And.intro|(intro h;try exact cDd)|exact⟨Tryz.call140⟩|refine cpe n6 ?_|(refine qha (i:=out.length - 1) rfl rfl rfl (congrArg (fun x=>some (IntKind.i64,x)) (by omega)) rfl rfl (by omega) ?_)|(refine qj8 (i:=out.length - 1) (j:=2) rfl rfl rfl rfl heA rfl rfl ?_)|(refine qne (i:=out.length - 1) (j:=2) (z:=ji e) (z':=.ag [Iv e.kind,Iv e.id,.sl 2 (e.fields.map fldA++[fldA (fk,fv)]) none]) (u:=.sl 2 (e.fields.map fldA++[fldA (fk,fv)]) none) rfl rfl rfl rfl rfl rfl heA rfl rfl ?_)|(refine Exists.intro (k+1,addF out (fk,fv),[]) ⟨⟨q0d hG rb,by omega,by simp,by omega,by simp,by simp,.inr ⟨by omega,hR.symm⟩⟩,by simp only;omega,?_⟩)|exact cSd|apply qb []|refine exr ?_|refine qe ?_)
      all_goals first|(simp;done)|(rw [i9,List.map_set];simp [ji,jr,List.map_append];done)
     ·have hnn:qcu text=none:=by
       rw [d7,← hR,ku];unfold qaa;rw [if_neg h0,if_neg hu]
      rw [hnn];unfold qct;generalize (zr a8).2=n at n6 hu;generalize (zr a8).1=f at n6;obtain⟨fk,fv⟩:=f;apply qd [];repeat' (first|apply And.intro|(intro h;try exact cDd)|exact⟨Tryz.call140⟩|refine cpe n6 ?_|exact cSd|apply qb []|refine exr ?_|refine qe ?_)
   ·-- a line
    obtain⟨x,hx⟩:∃ x,L[k]? = some x:=⟨_,List.getElem?_eq_getElem (by omega)⟩;have c8:(L.map lnA)[k]? = some (lnA x):=by simp [hx]
    have hxl:=b4 x (List.mem_of_getElem? hx)
    have td:(L.map fun x=>x.text).drop k=x.text::(L.map fun x=>x.text).drop (k+1):=by
     rw [List.drop_eq_getElem_cons (by simp;omega)];obtain⟨_,h⟩:=List.getElem?_eq_some_iff.1 hx;simp [h]
    rw [td] at hR;have bm:=fun st=>qlt x.text [32,32,32] st;have i6:=fun st=>qlt x.text [32,32] st;have cg:[32,32,32] <+: x.text→[32,32] <+: x.text:=fun ⟨q,hq⟩=>⟨[32]++q,by rw [← hq];rfl⟩
    have hmain:qcu text=none∧(a8≠[]∧¬ [32,32,32] <+: x.text∧(zr a8).2≠0)∨∃ (o:List qr) (h:List qa),(qz6 x.text ((L.map fun x=>x.text).drop (k+1)) o h=ku (L.map fun x=>x.text) [] []∧(h=[]∨[32,32,32] <+: x.text))∧OutG o (k+1)∧o.length≤40∧h.length≤k∧(h≠[]→o≠[])∧(∀ s∈h,s.length<1000000) ∧
      ((o=out∧h=a8∧a8=[])∨(o=out∧h=a8∧0<a8.length∧[32,32,32] <+: x.text)∨(h=[]∧0<a8.length∧¬ [32,32,32] <+: x.text∧∃ (e:qr) (fk fv:qa),(out.map ji)[out.length - 1]? = some (ji e)∧e.fields.length≤k∧o=out.set (out.length - 1) ⟨e.kind,e.id,e.fields++[(fk,fv)]⟩∧0<out.length∧∀ st,qo E 140 [Ss a8] st fun r st'=>r = .tu [fldA (fk,fv),Iv 0]∧st'=st)):=by
     have step:∀ (o:List qr) (h:List qa),qod (x.text::(L.map fun x=>x.text).drop (k+1)) out a8 o h→qz6 x.text ((L.map fun x=>x.text).drop (k+1)) o h=ku (L.map fun x=>x.text) [] []∧(h=[]∨[32,32,32] <+: x.text):=fun o h e=>by
      obtain⟨g1,g2⟩:=q7e e;exact⟨by rw [← g1,hR],g2⟩
     by_cases d8:a8≠[]∧¬ [32,32,32] <+: x.text
     ·have hf:qd2 a8 (x.text::(L.map fun x=>x.text).drop (k+1))=true:=by simp [qd2,d8.1,d8.2]
      by_cases hu:(zr a8).2=0
      ·have rz:0<out.length:=List.length_pos_iff.2 (a6 d8.1)
       have hfo:=q1u (out:=out) d8.1 hu;have rb:=qh2 hu;rw [hu] at n6;obtain⟨e,he⟩:∃ e,out[out.length - 1]? = some e:=⟨_,List.getElem?_eq_getElem (by omega)⟩;refine .inr ⟨addF out (zr a8).1,[],step _ _ ?_,q0d hG rb,by rw [qqy];exact sg,by simp,by simp,by simp,.inr (.inr ⟨rfl,List.length_pos_iff.2 d8.1,d8.2,e,_,_,by simp [he],(hG e (List.mem_of_getElem? he)).2.1,q0e he,rz,n6⟩)⟩;unfold qod;rw [if_pos hf];exact⟨hfo,rfl⟩
      ·exact .inl ⟨by rw [d7,← hR,q1t hf hu],d8.1,d8.2,hu⟩
     ·have hf:¬ qd2 a8 (x.text::(L.map fun x=>x.text).drop (k+1))=true:=by simpa [qd2] using d8
      refine .inr ⟨out,a8,step _ _ ?_,hG.mono (by omega),sg,hh,a6,hhb,?_⟩
      ·unfold qod
       rw [if_neg hf];exact⟨rfl,rfl⟩
      ·by_cases h0:a8=[]
       ·exact .inl ⟨rfl,rfl,h0⟩
       ·exact .inr (.inl ⟨rfl,rfl,List.length_pos_iff.2 h0,Classical.byContradiction fun h=>d8 ⟨h0,h⟩⟩)
    rcases hmain with⟨hnn,h0,lk,hu⟩ | ⟨o,h,⟨b7,hh0⟩,hG',h40',hh',hne',hhb',bp⟩
    ·have hz:0<a8.length:=List.length_pos_iff.2 h0
     rw [decide_eq_false lk] at bm;rw [hnn];unfold qct;generalize (zr a8).2=n at n6 hu;generalize (zr a8).1=f at n6;obtain⟨fk,fv⟩:=f;apply qd [];repeat' (first|apply And.intro|(intro h;try exact cDd)|(refine Exists.intro (k) ⟨by omega,_,c8,?_⟩)|exact⟨Tryz.call251⟩|refine cpe bm ?_|exact⟨Tryz.call140⟩|refine cpe n6 ?_|exact cSd|apply qb []|refine exr ?_|refine qe ?_)
    clear hR hG sg hh a6 hhb;unfold qz6 at b7;have hmo':(o.map ji).length=o.length:=by simp
    have hmh':(h.map fun x=>Sv x).length=h.length:=by simp
    by_cases h2:[32,32] <+: x.text
    ·have h2l:2≤x.text.length:=h2.length_le
     rw [decide_eq_true h2] at i6;rw [if_pos h2] at b7;by_cases ho:o=[]
     ·rw [if_pos ho] at b7
      have hnn:qcu text=none:=by rw [d7,← b7]
      rw [hnn];unfold qct;rcases bp with⟨rfl,rfl,h0⟩ | ⟨rfl,rfl,h0,lk⟩ | ⟨_,_,_,_,_,_,_,_,e,h0,_⟩
      ·have hz:h.length=0:=by simp [h0]
       have hz2:o.length=0:=by simp [ho]
       apply qd [];repeat' (first|apply And.intro|(intro h;try exact cDd)|(refine Exists.intro (k) ⟨by omega,_,c8,?_⟩)|exact⟨Tryz.call251⟩|refine cpe i6 ?_|exact cSd|apply qb []|refine exr ?_|refine qe ?_)
      ·have hz2:o.length=0:=by simp [ho]
       rw [decide_eq_true lk] at bm;apply qd [];repeat' (first|apply And.intro|(intro h;try exact cDd)|(refine Exists.intro (k) ⟨by omega,_,c8,?_⟩)|exact⟨Tryz.call251⟩|refine cpe bm ?_|exact⟨Tryz.call251⟩|refine cpe i6 ?_|exact cSd|apply qb []|refine exr ?_|refine qe ?_)
      ·exact absurd (congrArg List.length (ho.symm.trans e)) (by simp;omega)
     ·rw [if_neg ho] at b7
      have hz2:0<o.length:=List.length_pos_iff.2 ho
      have hhs:∀ s∈h++[x.text.drop 2],s.length<1000000:=fun s hs=>by
       rcases List.mem_append.1 hs with hs|hs
       ·exact hhb' s hs
       ·obtain rfl:=List.mem_singleton.1 hs
        rw [List.length_drop];omega
      obtain⟨hn,hhn⟩:∃ hn,hn=h++[x.text.drop 2]:=⟨_,rfl⟩;have gq:hn.length≤k+1:=by rw [hhn];simp;omega
      rw [← hhn] at b7 hhs;rcases bp with⟨rfl,rfl,h0⟩ | ⟨rfl,rfl,h0,lk⟩ | ⟨rfl,h0,lk,e,fk,fv,heA,hef,i9,rz,hun'⟩
      case' neg.inl=>have hz:h.length=0:=by simp [h0]
      case' neg.inr.inl=>rw [decide_eq_true lk] at bm
      case' neg.inr.inr=>
       rw [decide_eq_false lk] at bm;have hmf:(e.fields.map fldA).length=e.fields.length:=by simp
       have fm:out.length=o.length:=by rw [i9,List.length_set]
       have cx:((out.map ji).set (out.length - 1) (.ag [Iv e.kind,Iv e.id,.sl 2 (e.fields.map fldA++[fldA (fk,fv)]) none])).length=o.length:=by simp [fm]
      all_goals
       apply qd [];repeat' (first|apply And.intro|(intro h;try exact cDd)|(refine Exists.intro (k) ⟨by omega,_,c8,?_⟩)|exact⟨Tryz.call251⟩|refine cpe bm ?_|exact⟨Tryz.call251⟩|refine cpe i6 ?_|exact⟨Tryz.call140⟩|refine cpe hun' ?_|(refine qha (i:=out.length - 1) rfl rfl rfl (congrArg (fun x=>some (IntKind.i64,x)) (by omega)) rfl rfl (by omega) ?_)|(refine qj8 (i:=out.length - 1) (j:=2) rfl rfl rfl rfl heA rfl rfl ?_)|(refine qne (i:=out.length - 1) (j:=2) (z:=ji e) (z':=.ag [Iv e.kind,Iv e.id,.sl 2 (e.fields.map fldA++[fldA (fk,fv)]) none]) (u:=.sl 2 (e.fields.map fldA++[fldA (fk,fv)]) none) rfl rfl rfl rfl rfl rfl heA rfl rfl ?_)|(refine Exists.intro (k+1,o,hn) ⟨⟨hG',h40',gq,by omega,fun _=>ho,hhs,.inl ⟨by omega,b7⟩⟩,by simp only;omega,?_⟩)|exact cSd|apply qb []|refine exr ?_|refine qe ?_)
       all_goals first|(simp [hhn];done)|(rw [i9,List.map_set];simp [ji,jr,List.map_append];done)
    ·rw [decide_eq_false h2] at i6
     rw [if_neg h2] at b7;obtain rfl:h=[]:=hh0.resolve_right fun q=>h2 (cg q);rcases bp with⟨rfl,rfl,h0⟩ | ⟨_,_,_,lk⟩ | ⟨_,h0,lk,e,fk,fv,heA,hef,i9,rz,hun'⟩
     case neg.inr.inl=>exact absurd (cg lk) h2
     case' neg.inr.inr=>
      rw [decide_eq_false lk] at bm;have hmf:(e.fields.map fldA).length=e.fields.length:=by simp
      have fm:out.length=o.length:=by rw [i9,List.length_set]
      have cx:((out.map ji).set (out.length - 1) (.ag [Iv e.kind,Iv e.id,.sl 2 (e.fields.map fldA++[fldA (fk,fv)]) none])).length=o.length:=by simp [fm]
     all_goals
      apply qd [];repeat' (first|apply And.intro|(intro h;try exact cDd)|(refine Exists.intro (k) ⟨by omega,_,c8,?_⟩)|exact⟨Tryz.call251⟩|refine cpe bm ?_|exact⟨Tryz.call251⟩|refine cpe i6 ?_|exact⟨Tryz.call140⟩|refine cpe hun' ?_|(refine qha (i:=out.length - 1) rfl rfl rfl (congrArg (fun x=>some (IntKind.i64,x)) (by omega)) rfl rfl (by omega) ?_)|(refine qj8 (i:=out.length - 1) (j:=2) rfl rfl rfl rfl heA rfl rfl ?_)|(refine qne (i:=out.length - 1) (j:=2) (z:=ji e) (z':=.ag [Iv e.kind,Iv e.id,.sl 2 (e.fields.map fldA++[fldA (fk,fv)]) none]) (u:=.sl 2 (e.fields.map fldA++[fldA (fk,fv)]) none) rfl rfl rfl rfl rfl rfl heA rfl rfl ?_)|exact cSd|apply qb []|refine exr ?_|refine qe ?_)
      refine zw (X:=Nat×Int×Int) (fun (j,a,b)=>⟨[(0,.s text),(4,.tp 0),(5,.tp 1),(6,.a (lnsA L)),(7,.i k),(11,.s x.text),(12,.bx 2 0),(13,.i ((j:Int)+1))],[(0,some (.own 3 113 (o.map ji))),(1,some (.tip 1 9 [])),(2,some (.cells 113 [.i a,.i b,.a zp]))],3⟩)
       (fun (j,a,b)=>j≤3∧qmk x.text j a b) (fun (j,_,_)=>3 - j) (0,0,0) ⟨by omega,.inl ⟨rfl,rfl,rfl⟩⟩ ?_ ?_
      ·skip
       repeat' (first|apply And.intro|(intro h;try exact cDd)|exact cSd|apply qb []|refine exr ?_|refine qe ?_)
       all_goals first|(simp;done)|(rw [i9,List.map_set];simp [ji,jr,List.map_append];done)
      ·rintro⟨j,a,b⟩ ⟨hj,hta⟩
       by_cases hj3:j=3
       ·subst hj3
        unfold qmk at hta;rw [q5u] at hta;rcases hta with⟨rfl,rfl,hb⟩ | ⟨ha,hb⟩
        ·rw [hb] at b7
         have hnn:qcu text=none:=by rw [d7,← b7]
         rw [hnn];unfold qct;apply qd [];repeat' (first|apply And.intro|(intro h;try exact cDd)|exact cSd|apply qb []|refine exr ?_|refine qe ?_)
        ·rw [hb] at b7
         simp only at b7;by_cases h40o:40≤o.length
         ·rw [if_pos h40o] at b7
          have hnn:qcu text=none:=by rw [d7,← b7]
          rw [hnn];unfold qct;apply qd [];repeat' (first|apply And.intro|(intro h;try exact cDd)|exact cSd|apply qb []|refine exr ?_|refine qe ?_)
         ·rw [if_neg h40o] at b7
          have lq:OutG (o++[⟨a,b,[]⟩]) (k+1):=fun y hy=>by
           rcases List.mem_append.1 hy with hy|hy
           ·exact hG' y hy
           ·obtain rfl:=List.mem_singleton.1 hy
            exact⟨by simp,by simp,q96 hb⟩
          apply qd [];repeat' (first|apply And.intro|(intro h;try exact cDd)|(refine qu1 (ys:=[ji ⟨a,b,[]⟩]) rfl rfl rfl rfl rfl rfl rfl rfl (by simp;omega) rfl ?_)|(refine Exists.intro (k+1,o++[⟨a,b,[]⟩],[]) ⟨⟨lq,by simp;omega,by simp,by omega,by simp,by simp,.inl ⟨by omega,b7⟩⟩,by simp only;omega,?_⟩)|exact cSd|apply qb []|refine exr ?_|refine qe ?_)
          all_goals (simp;done)
       ·obtain⟨H,hH⟩:∃ H,H=yw ((j:Int)+1):=⟨_,rfl⟩
        have hj012:j=0∨j=1∨j=2:=by omega
        have hHl:H.length≤9:=by
         rw [hH];rcases hj012 with rfl|rfl|rfl <;> decide
        have hli:∀ st,qo E 181 [ji ⟨(j:Int)+1,0,[]⟩] st fun r st'=>r=Sv (H++[48])∧st'=st:=fun st=>by
         have:=qy2 ⟨(j:Int)+1,0,[]⟩ st (by simp) (by simp);unfold kg at this;rw [if_pos (by constructor <;> simp only <;> omega),h0i,← hH] at this;exact this
        have d2:(H++[48]).take H.length=H:=List.take_left;have nc:qjg x.text (j+1)=tryR x.text (qjg x.text j) ((j:Int)+1):=rfl;unfold tryR at nc;rw [← hH] at nc
        have ng:(if H <+: x.text then match numZ (x.text.drop H.length) with
         |some n=>some ((j:Int)+1,n)
         |none=>qjg x.text j else qjg x.text j)=qjg x.text (j+1):=nc.symm
        by_cases hp:H <+: x.text
        ·rw [if_pos hp] at ng
         have bd:=hp.length_le;have hbH:=fun st=>q26 x.text ((H++[48]).take H.length) true (by rw [d2];exact decide_eq_true hp) st
         cases hz:numZ (x.text.drop H.length) with
         |none=>
          rw [hz] at ng;have hnu:∀ st,qo E 145 [Sv (x.text.drop H.length)] st fun r st'=>r = .tu [Iv 0,Bv false]∧st'=st:=fun st=>qgv _ st (by simp;omega) hz;have hta':qmk x.text (j+1) a b:=by unfold qmk at hta ⊢;rw [← ng];exact hta
          apply qd [];repeat' (first|apply And.intro|(intro h;try exact cDd)|exact⟨Tryz.call181⟩|refine cpe hli ?_|(refine Exists.intro H.length ⟨by simp,?_⟩)|exact⟨Tryz.call251⟩|refine cpe hbH ?_|exact⟨Tryz.call145⟩|refine cpe hnu ?_|(refine Exists.intro (j+1,a,b) ⟨⟨by omega,hta'⟩,by simp only;omega,?_⟩)|exact cSd|apply qb []|refine exr ?_|refine qe ?_)
          all_goals first|(simp [d2];done)|(simp [d2];omega)|omega
         |some n=>
          rw [hz] at ng;have hnu:∀ st,qo E 145 [Sv (x.text.drop H.length)] st fun r st'=>r = .tu [Iv n,Bv true]∧st'=st:=fun st=>qea _ n st (by simp;omega) hz;have hta':qmk x.text (j+1) ((j:Int)+1) n:=.inr ⟨by omega,ng.symm⟩;apply qd [];repeat' (first|apply And.intro|(intro h;try exact cDd)|exact⟨Tryz.call181⟩|refine cpe hli ?_|(refine Exists.intro H.length ⟨by simp,?_⟩)|exact⟨Tryz.call251⟩|refine cpe hbH ?_|exact⟨Tryz.call145⟩|refine cpe hnu ?_|(refine Exists.intro (j+1,(j:Int)+1,n) ⟨⟨by omega,hta'⟩,by simp only;omega,?_⟩)|exact cSd|apply qb []|refine exr ?_|refine qe ?_)
          all_goals first|(simp [d2];done)|(simp [d2];omega)|omega
        ·rw [if_neg hp] at ng
         have hbH:=fun st=>q26 x.text ((H++[48]).take H.length) false (by rw [d2];exact decide_eq_false hp) st;have hta':qmk x.text (j+1) a b:=by unfold qmk at hta ⊢;rw [← ng];exact hta
         apply qd [];repeat' (first|apply And.intro|(intro h;try exact cDd)|exact⟨Tryz.call181⟩|refine cpe hli ?_|(refine Exists.intro H.length ⟨by simp,?_⟩)|exact⟨Tryz.call251⟩|refine cpe hbH ?_|(refine Exists.intro (j+1,a,b) ⟨⟨by omega,hta'⟩,by simp only;omega,?_⟩)|exact cSd|apply qb []|refine exr ?_|refine qe ?_)
         all_goals first|(simp [d2];done)|(simp [d2];omega)|omega
  ·have hB:=zbm hG (by omega)
   rw [hR] at d7;simp only at d7;have cn:=fun st=>qpt out st hB (by omega);by_cases he:eErr out = .no
   ·have p4:=fun st=>qzs out st hB he
    rw [he] at cn;by_cases ht:encF out=text
    ·rw [if_pos ⟨he,ht⟩] at d7
     rw [d7];rw [ht] at p4;refine qw0 4 rfl rfl ?_;apply qd [];repeat' (first|apply And.intro|(intro h;try exact cDd)|exact⟨Tryz.call96⟩|refine cpe cn ?_|exact⟨Tryz.call106⟩|refine cpe p4 ?_|exact cSd|apply qb []|refine exr ?_|refine qe ?_)
    ·rw [if_neg (fun h=>ht h.2)] at d7
     rw [d7];unfold qct;refine qw0 4 rfl rfl ?_;apply qd [];repeat' (first|apply And.intro|(intro h;try exact cDd)|exact⟨Tryz.call96⟩|refine cpe cn ?_|exact⟨Tryz.call106⟩|refine cpe p4 ?_|exact absurd ht (by assumption)|exact cSd|apply qb []|refine exr ?_|refine qe ?_)
   ·rw [if_neg (fun h=>he h.1)] at d7
    rw [d7];have h0:¬ (eErr out).code=0:=fun h=>he ((qdz out).1 h);generalize (eErr out).code=c at cn h0;generalize (eErr out).pos=c2 at cn;unfold qct;refine qw0 4 rfl rfl ?_;apply qd [];repeat' (first|apply And.intro|(intro h;try exact cDd)|exact⟨Tryz.call96⟩|refine cpe cn ?_|exact cSd|apply qb []|refine exr ?_|refine qe ?_)
end Go.Proofs.YtneejjefekdgjaaGreatDoor
namespace Go.Pl
open Go Go.Proofs Go.Proofs.YtneejjefekdgjaaGreatDoor
structure vz where
 gen:Int
 base:qa
 batches:List (List qr)
 ends : List Int
 tail:qa
def qaj:vz:=⟨0,[],[],[],[]⟩
def z8 (text:qa):ErrV:=if 60000<text.length then .num 1 else match (ja text).1 with
 |none=>.no
 |some (a,n)=>.at' a n
def recsF:Nat→qa→Int→List (List qr)→List Int→Bool×List (List qr)×List Int×qa
 | 0,l,_,bs,es=>(false,bs,es,l)
 |f+1,l,a,bs,es=>
  if (zh l).1=2 then (false,bs,es,l)
  else if (zh l).1=1 then match decF (zh l).2.1 with
   |some b=>recsF f (l.drop (zh l).2.2.toNat) (a+(zh l).2.2) (bs++[b]) (es++[a+(zh l).2.2])
   |none=>(true,bs,es,l)
  else (true,bs,es,l)
def qdv (text:qa):qa:=(wl text).2
def atH (text:qa):Nat:=je (qdv text).length (qdv text)
def qix (text:qa):qa:=(qdv text).take (atH text)
def qes (text:qa):Bool×List (List qr)×List Int×qa:=recsF (text.length+1) ((qdv text).drop (atH text)) (((text.length - (qdv text).length+atH text:Nat)):Int) [] []
def jq (text:qa):ErrV×vz:=
 if 120000<text.length then (.num 1,qaj)
 else match z8 (qix text) with
  | .no=>if (qes text).1=true then (.at' (qes text).2.1.length 10,qaj) else (.no,⟨(wl text).1,qix text,(qes text).2.1,(qes text).2.2.1,(qes text).2.2.2⟩)
  |e=>(e,qaj)
structure qir (b:List qr):Prop where
 ok:eErr b = .no
 B:∀ x∈b,EdB x
 len:(encF b).length≤50000
theorem qir.good {b:List qr} (h:qir b):yv (encF b):=zao h.ok h.B h.len
theorem zee {t:qa} {b:List qr} (h:decF t=some b):qir b∧encF b=t:=by
 obtain⟨h1,h2,h3⟩:=q1a h;exact⟨⟨h1,zag h,by rw [h2];exact h3⟩,h2⟩
def recE (b:List qr):qa:=recF (encF b)
def yh (bs:List (List qr)):qa:=bs.flatMap recE
def qbz (a:Int):List (List qr)→List Int
 | []=>[]
 |b::r=>(a+(recE b).length)::qbz (a+(recE b).length) r
theorem qet (b:List qr) (r:List (List qr)):yh (b::r)=recE b++yh r:=rfl
theorem q8z (r:List (List qr)) (b:List qr):yh (r++[b])=yh r++recE b:=by simp [yh]
theorem qt7:∀ (r:List (List qr)) (a:Int) (b:List qr),qbz a (r++[b])=qbz a r++[a+(yh r).length+(recE b).length]
 | [],a,b=>by simp [qbz,yh]
 |x::r,a,b=>by
  rw [List.cons_append,qbz,qbz,qt7 r,qet];simp;omega
theorem qoy:∀ (r:List (List qr)) (a:Int),(qbz a r).length=r.length
 | [],_=>rfl
 |x::r,a=>by rw [qbz];simp [qoy r]
theorem qt6:∀ (r:List (List qr)) (a:Int),r≠[]→(qbz a r).getLast? = some (a+(yh r).length)
 | [],_,h=>absurd rfl h
 | [x],a,_=>by simp [qbz,yh]
 |x::y::r,a,_=>by
  have:=qt6 (y::r) (a+(recE x).length) (by simp);rw [qbz,List.getLast?_cons];rw [this,qet x];simp;omega
theorem q21 (b:List qr):0<(recE b).length:=by
 unfold recE;rw [qqp];simp [recL,wh,zb]
theorem q23:∀ (f:Nat) (l:qa) (a:Int) (xs xs':List (List qr)) (es es':List Int) (t:qa),l.length<f→recsF f l a xs es=(false,xs',es',t) →
  ∃ bs,l=yh bs++t∧xs'=xs++bs∧es'=es++qbz a bs∧(∀ b∈bs,qir b)∧(zh t).1=2
 | 0,l,a,xs,xs',es,es',t,hl,h=>absurd hl (by omega)
 |f+1,l,a,xs,xs',es,es',t,hl,h=>by
  rw [recsF] at h;split at h
  ·rename_i h2
   simp only [Prod.mk.injEq,true_and] at h;obtain⟨rfl,rfl,rfl⟩:=h;exact⟨[],by simp [yh],by simp,by simp [qbz],by simp,h2⟩
  ·split at h
   ·rename_i h1
    split at h
    ·rename_i b hd
     obtain⟨hg,he⟩:=zee hd;have gf:zh l=(1,(zh l).2.1,(zh l).2.2):=by rw [← h1]
     obtain⟨_,m,hm,hn⟩:=qva gf;rw [← he] at hm hn;have hm':l=recE b++m:=hm;have fg:(zh l).2.2=((recE b).length:Int):=hn;have p7:=q21 b;have a7:l.length=(recE b).length+m.length:=by rw [hm'];simp
     have td:l.drop (recE b).length=m:=by
      conv=>lhs;rw [hm']
      rw [List.drop_left]
     rw [fg,Int.toNat_natCast,td] at h;obtain⟨bs,e1,e2,e3,e4,e5⟩:=q23 f m _ _ _ _ _ _ (by omega) h;refine⟨b::bs,?_,by rw [e2];simp,by rw [e3];simp [qbz],?_,e5⟩
     ·rw [qet,List.append_assoc,← e1]
      exact hm'
     ·intro x hx
      rcases List.mem_cons.1 hx with rfl|hx
      ·exact hg
      ·exact e4 x hx
    ·simp at h
   ·simp at h
structure qbk (text:qa) (b:vz):Prop where
 txt:text=vl b.gen++(b.base++(yh b.batches++b.tail))
 gen:wl text=(b.gen,b.base++(yh b.batches++b.tail))
 parse:z8 b.base = .no
 good:∀ x∈b.batches,qir x
 tail:(zh b.tail).1=2
 ends : b.ends = qbz ((vl b.gen).length + b.base.length) b.batches
 len:text.length≤120000
def BegP (x:qa):Prop:=x=[]∨begF (upto 10 x)=true
theorem q95 {t:qa} (h:(zh t).1=2):BegP t:=by
 by_cases h0:t=[]
 ·exact .inl h0
 ·obtain⟨n,fig,body,R,hp,_⟩:=zh8 h
  obtain⟨_,_,_,_,_,hx⟩:=R;exact .inr (q98 hx hp h0)
theorem q94 {bs:List (List qr)} {t:qa} (hg:∀ b∈bs,qir b) (h:(zh t).1=2):BegP (yh bs++t):=by
 cases bs with
 |nil=>exact q95 h
 |cons b r=>
  refine .inr ?_;rw [qet,List.append_assoc];exact zgy _ (hg b (by simp)).good
theorem q93 {x:qa} (h:BegP x):x=[]∨x.head? = some 37:=by
 rcases h with h|h
 ·exact .inl h
 ·simp only [begF,decide_eq_true_eq] at h
  cases x with
  |nil=>exact .inl rfl
  |cons c r=>
   refine .inr ?_;have h1:=h.1;unfold upto at h1;by_cases hc:c=10
   ·subst hc;simp at h1
   ·simpa [hc] using h1
theorem q2v {l:qa} (h:z8 l = .no):(∀ p∈zn l,begF p.1=false∧p.2=true)∧l.length≤60000:=by
 unfold z8 at h;split at h
 ·simp at h
 ·split at h
  ·rename_i hp
   exact⟨q42 hp,by omega⟩
  ·simp at h
theorem qjs {text:qa} {b:vz} (h:jq text=(.no,b)):qbk text b:=by
 unfold jq at h;split at h
 ·simp at h
 ·rename_i a7
  split at h
  ·rename_i hp
   split at h
   ·simp at h
   ·rename_i hc
    simp only [Prod.mk.injEq,true_and] at h;subst h;have hs:=qfa text;have b0:atH text≤(qdv text).length:=(qop _ _ _ (Nat.le_refl _) (Nat.le_refl _)).2
    have t7:(qdv text).length≤text.length:=by
     conv=>rhs;rw [hs.1]
     unfold qdv;simp
    have hhl:text.length - (qdv text).length=(vl (wl text).1).length:=by
     have:text.length=(vl (wl text).1).length+(qdv text).length:=by
      conv=>lhs;rw [hs.1]
      unfold qdv;simp
     omega
    have hq:qes text=(false,(qes text).2.1,(qes text).2.2.1,(qes text).2.2.2):=by
     have:(qes text).1=false:=by simpa using hc
     rw [← this]
    obtain⟨bs,e1,e2,e3,e4,e5⟩:=q23 _ _ _ _ _ _ _ _ (by simp;omega) (show recsF (text.length+1) _ _ _ _=_ from hq);simp only [List.nil_append] at e2 e3;have bn:(qix text).length=atH text:=by unfold qix;simp;omega
    have hrest:qdv text=qix text++(yh bs++(qes text).2.2.2):=by
     rw [← e1];unfold qix;rw [List.take_append_drop]
    refine⟨?_,?_,hp,?_,e5,?_,by omega⟩
    ·simp only
     rw [e2,← hrest];exact hs.1
    ·simp only
     rw [e2,← hrest];rfl
    ·simp only
     rw [e2];exact e4
    ·simp only
     rw [e2,e3,bn,hhl];simp
  ·rename_i hp
   simp only [Prod.mk.injEq] at h;exact absurd h.1 hp
def qac (b:vz):qa:=vl b.gen++(b.base++yh b.batches)
def qcc (b:vz):Int:=match b.ends.getLast? with
 |some e=>e
 |none=>((vl b.gen).length+b.base.length:Nat)
theorem qbk.split {text:qa} {b:vz} (h:qbk text b):text=qac b++b.tail:=by
 have:=h.txt;unfold qac
 simpa using this
theorem qbk.whole {text:qa} {b:vz} (h:qbk text b):qcc b=((qac b).length:Int):=by
 unfold qcc;rw [h.ends];by_cases h0:b.batches=[]
 ·rw [h0]
  simp [qbz,qac,h0,yh]
 ·rw [qt6 _ _ h0]
  simp [qac];omega
theorem qbk.take {text:qa} {b:vz} (h:qbk text b):text.take (qcc b).toNat=qac b:=by
 rw [h.whole,Int.toNat_natCast]
 conv=>lhs;rw [h.split]
 rw [List.take_left]
theorem q8c {l:qa} (h:l≠[]) (hp:∀ p∈zn l,p.2=true):l.getLast? = some 10:=by
 have:∀ (k:Nat) (l:qa),l.length≤k→l≠[]→(∀ p∈zn l,p.2=true)→l.getLast? = some 10:=by
  intro k
  induction k with
  |zero=>intro l hl h0;exact absurd (List.length_eq_zero_iff.1 (by omega)) h0
  |succ k ih=>
   intro l hl h0 hp;rw [wq h0] at hp;have b9:10∈l:=by simpa using hp _ (List.mem_cons_self ..)
   have e:=wg b9;by_cases hq:past 10 l=[]
   ·rw [hq] at e
    rw [e];simp
   ·have:=ih (past 10 l) (by have:=xq (c:=10) h0;omega) hq fun p mv=>hp p (by simp [mv])
    rw [e];rw [List.getLast?_append,List.getLast?_cons,this];simp
 exact this _ l (Nat.le_refl _) h hp
theorem zhl {l x:qa} {n:Int} (h:∀ p∈zn l,p.2=true) (hx:x=[]∨x.head? = some 37) (hp:wi n <+: l++x):wi n <+: l:=by
 rcases qf6 hp with h1 | ⟨r,h1,hr⟩
 ·exact h1
 ·by_cases sc:r=[]
  ·rw [h1,sc,List.append_nil]
   exact List.prefix_refl _
  ·exfalso
   obtain⟨c,q,rfl⟩:=List.exists_cons_of_ne_nil sc
   have hc:c=37:=by
    obtain⟨t,ht⟩:=hr;rcases hx with rfl|hx
    ·simp at ht
    ·rw [← ht] at hx
     simpa using hx
   subst hc;by_cases hl:l=[]
   ·rw [hl] at h1
    simp [wi,genL] at h1
   ·have g8:=q8c hl h
    obtain⟨q0,hq0⟩:∃ q0,l=q0++[10]:=by
     have:=qra g8;exact⟨_,this.symm⟩
    have e:genL++Lib.itoa n++10::[10]=q0++10::(37::q):=by
     have:=h1;unfold wi at this;rw [hq0] at this
     simpa using this
    have hu10:10∉genL++Lib.itoa n:=by
     intro h;rcases List.mem_append.1 h with h|h
     ·revert h;decide
     ·exact qm6 n h
    have hA:=vv (c:=10) [10] hu10;have hB:=xv (c:=10) [10] hu10;rw [e] at hA hB;by_cases hq10:10∈q0
    ·have e2:=wg hq10
     have e3:q0++10::(37::q)=upto 10 q0++10::(past 10 q0++10::(37::q)):=by
      conv=>lhs;rw [e2]
      simp
     rw [e3,xv _ (qam 10 q0)] at hB;have:=congrArg List.length hB;simp at this;omega
    ·rw [xv _ hq10] at hB
     simp at hB
theorem q9f {l x y:qa} (h:∀ p∈zn l,p.2=true) (hx:wl (l++x)=(0,l++x)) (hy:y=[]∨y.head? = some 37):wl (l++y)=(0,l++y):=by
 refine qp3 fun n r hg e=>?_;obtain⟨t,ht⟩:=zhl (n:=n) h hy ⟨r,e.symm⟩;have:wl (l++x)=(n,t++x):=by rw [← ht,List.append_assoc,qnu hg]
 rw [hx] at this;have h0:(0:Int)=n:=(Prod.mk.inj this).1;have:=hg.1;omega
theorem qbk.gen0 {text:qa} {b:vz} (h:qbk text b):b.gen=0∨ke b.gen:=by
 have:=(qfa text).2;rw [h.gen] at this;exact this
theorem qbk.other {text:qa} {b:vz} (h:qbk text b) {bs:List (List qr)} {t:qa} (hg:∀ x∈bs,qir x) (ht:(zh t).1=2) (a7:(vl b.gen++(b.base++(yh bs++t))).length≤120000) :
  qbk (vl b.gen++(b.base++(yh bs++t))) ⟨b.gen,b.base,bs,qbz ((vl b.gen).length+b.base.length) bs,t⟩:=by
 refine⟨rfl,?_,h.parse,hg,ht,rfl,a7⟩;rcases h.gen0 with h0|h0
 ·have hgen:=h.gen
  have htext:=h.txt;have e:vl b.gen=[]:=by unfold vl;rw [if_neg (by rw [h0];decide)]
  rw [e,List.nil_append] at htext ⊢;rw [h0,htext] at hgen;simp only;rw [h0];exact q9f (fun p hp=>((q2v h.parse).1 p hp).2) hgen (q93 (q94 hg ht))
 ·have e:vl b.gen=wi b.gen:=by unfold vl;rw [if_pos h0]
  simp only;rw [e,qnu h0]
theorem zfg:zh []=(2,[],0):=by
 unfold zh x2;rw [if_neg (by simp),if_pos];rw [if_neg (by decide)];decide
theorem qbk.more {text:qa} {b:vz} (h:qbk text b) {x:List qr} (hx:qir x) (hl:(qac b++recE x).length≤120000):qbk (qac b++recE x) { b with batches:=b.batches++[x],ends:=b.ends++[qcc b+(recE x).length],tail:=[] }:=by
 have e:vl b.gen++(b.base++(yh (b.batches++[x])++[]))=qac b++recE x:=by simp [qac,q8z]
 have:=h.other (bs:=b.batches++[x]) (t:=[]) (fun y hy=>by
  rcases List.mem_append.1 hy with hy|hy
  ·exact h.good y hy
  ·obtain rfl:=List.mem_singleton.1 hy
   exact hx) (by rw [zfg]) (by rw [e];exact hl)
 rw [e,qt7,← h.ends] at this
 have hw:((vl b.gen).length+b.base.length+(yh b.batches).length+(recE x).length:Int)=qcc b+(recE x).length:=by
  rw [h.whole];simp [qac];omega
 rw [hw] at this;exact this
def appF (text:qa) (x:List qr):ErrV×qa:=
 match (jq text).1 with
 | .no=>match eErr x with
  | .no=>if 50000<(encF x).length then (.num 11,[]) else if 120000<qcc (jq text).2+(recE x).length then (.num 11,[]) else (.no,text.take (qcc (jq text).2).toNat++recE x)
  |e=>(e,[])
 |e=>(e,[])
def qia (gen:Int) (text:qa):ErrV×qa:=
 if gen≠0∧¬ ke gen then (.num 1,[]) else match z8 text with
  | .no=>(.no,vl gen++text)
  |e=>(e,[])
end Go.Pl
namespace Go.Proofs.YtneejjefekdgjaaGreatDoor
open Go Go.Av Go.RowKit Go.Proofs Go.Pl
theorem qj1 (n:Int) (st:List AObj) (h:ke n):qo E 75 [Iv n] st fun r st'=>r = .tu [Sv (wi n),.v .nilIface]∧st'=st:=by
 have h1:=h.1;have h2:=h.2;have hl:=qid (v:=n) (by omega) (by omega);have hit:=fun st=>qo9 n st (by omega) (by omega);refine zg [.i n] (jg (qq _) (qq _)) Tryz.func75 rfl rfl (fun _=>rfl) rfl fun S0=>?_;apply qd [];repeat' (first|apply And.intro|(intro h;try exact cDd)|exact⟨Tryz.call133⟩|refine cpe hit ?_|exact cSd|apply qb []|refine exr ?_|refine qe ?_)
 all_goals first|(simp;omega)|(simp [wi,genL];done)
theorem qsj (n:Int) (st:List AObj) (h:¬ ke n):qo E 75 [Iv n] st fun r st'=>r = .tu [Sv [],.ifc 62 (Iv 1)]∧st'=st:=by
 refine zg [.i n] (jg (qq _) (qci (qq _))) Tryz.func75 rfl rfl (fun _=>rfl) rfl fun S0=>?_;unfold ke at h;apply qd [];repeat' (first|apply And.intro|(intro h;try exact cDd)|exact cSd|apply qb []|refine exr ?_|refine qe ?_)
theorem zjp (n:Int) (text:qa) (st:List AObj) (h:n=0∨ke n) (hl:text.length<1000000):qo E 110 [Iv n,Sv text] st fun r st'=>r = .tu [Sv (vl n++text),.v .nilIface]∧st'=st:=by
 refine zg [.i n,.s text] (jg (qq _) (qq _)) Tryz.func110 rfl rfl (fun _=>rfl) rfl fun S0=>?_;by_cases h0:n=0
 ·have e:vl n=[]:=by unfold vl;rw [if_neg (by rw [h0];decide)]
  rw [e,List.nil_append];apply qd [];repeat' (first|apply And.intro|(intro h;try exact cDd)|exact cSd|apply qb []|refine exr ?_|refine qe ?_)
 ·have hg:=h.resolve_left h0
  have dj:=qpd hg;have e:vl n=wi n:=by unfold vl;rw [if_pos hg]
  have lg:=fun st=>qj1 n st hg;rw [e];apply qd [];repeat' (first|apply And.intro|(intro h;try exact cDd)|exact⟨Tryz.call75⟩|refine cpe lg ?_|exact cSd|apply qb []|refine exr ?_|refine qe ?_)
theorem zhm (n:Int) (text:qa) (st:List AObj) (h:n≠0) (hg:¬ ke n):qo E 110 [Iv n,Sv text] st fun r st'=>r = .tu [Sv [],.ifc 62 (Iv 1)]∧st'=st:=by
 have lg:=fun st=>qsj n st hg;refine zg [.i n,.s text] (jg (qq _) (qci (qq _))) Tryz.func110 rfl rfl (fun _=>rfl) rfl fun S0=>?_;apply qd [];repeat' (first|apply And.intro|(intro h;try exact cDd)|exact⟨Tryz.call75⟩|refine cpe lg ?_|exact cSd|apply qb []|refine exr ?_|refine qe ?_)
theorem zjo (n:Int) (st:List AObj):qo E 166 [Iv n] st fun r st'=>r=Iv ((vl n).length:Nat)∧st'=st:=by
 refine zg [.i n] (qq _) Tryz.func166 rfl rfl (fun _=>rfl) rfl fun S0=>?_;by_cases hg:ke n
 ·have e:vl n=wi n:=by unfold vl;rw [if_pos hg]
  have lg:=fun st=>qj1 n st hg;rw [e];apply qd [];repeat' (first|apply And.intro|(intro h;try exact cDd)|exact⟨Tryz.call75⟩|refine cpe lg ?_|exact cSd|apply qb []|refine exr ?_|refine qe ?_)
 ·have e:vl n=[]:=by unfold vl;rw [if_neg hg]
  have lg:=fun st=>qsj n st hg;rw [e];apply qd [];repeat' (first|apply And.intro|(intro h;try exact cDd)|exact⟨Tryz.call75⟩|refine cpe lg ?_|exact cSd|apply qb []|refine exr ?_|refine qe ?_)
theorem zc0 (l:qa) (st:List AObj):qo E 74 [Sv (genL++l),Sv [35,37,103,101,110,32]] st fun r st'=>r=Sv l∧st'=st:=by
 have:=qki (genL++l) [35,37,103,101,110,32] st;rw [qdg (show [35,37,103,101,110,32] <+: genL++l from List.prefix_append genL l)] at this;have e:(genL++l).drop ([35,37,103,101,110,32]:qa).length=l:=by rw [show ([35,37,103,101,110,32]:qa).length=genL.length by rfl,List.drop_left]
 rw [e] at this;exact this
set_option maxHeartbeats 2000000 in
theorem zhn (text:qa) (st:List AObj) (hl:text.length<1000000):qo E 29 [Sv text] st fun r st'=>r = .tu [Iv (wl text).1,Sv (wl text).2]∧st'=st:=by
 refine qx (jg (qq _) (qq _)) (qp Tryz.func29 rfl (Nat.le_of_ble_eq_true rfl) ?_);rcases qry text with⟨n,r,hg,he,ht⟩ | ⟨bv,ht⟩
 ·rw [ht]
  have hn10:10∉genL++Lib.itoa n:=fun h=>by
   rcases List.mem_append.1 h with h|h
   ·revert h;decide
   ·exact qm6 n h
  have sw:∀ st,qo E 72 [Sv text,Sv [10,10]] st fun x st'=>x = .tu [Sv (genL++Lib.itoa n),Sv r,Bv true]∧st'=st:=fun st=>by
   have:=qtw text [10,10] st (by omega);rw [he,qm7,← List.append_assoc,zjh r hn10] at this;rw [he,qm7,← List.append_assoc];exact this
  have hb:=qid (v:=n) (by have:=hg.1;omega) (by have:=hg.2;omega);have hgl:genL.length=6:=rfl;have hat:=qmp (v:=n) (by have:=hg.1;omega) (by have:=hg.2;omega);repeat' (first|apply qn|apply qf|apply qh|apply qj|apply qg|(apply zf;exact rfl;exact rfl)|(apply qk;exact Tryz.call72;exact sw _)|(apply qk;exact Tryz.call74;exact zc0 _ _))
  refine qft Tryz.call73 ((qon (Lib.itoa n) _ (by omega)).mono ?_);rintro _ _ ⟨rfl,n',x,rfl,hx⟩;rcases x with _ | ⟨t',y⟩
  ·simp only at hx
   rw [hat] at hx;have e:n=n':=by simpa using hx
   subst e
   show AOps _ _ _ _ _ _ _
   have hs:wi n=(genL++Lib.itoa n)++[10,10]:=rfl;have rk:¬ wi n≠(genL++Lib.itoa n)++[10,10]:=fun h=>h hs;repeat' (first|apply qn|apply qf|apply qh|apply qj|apply qg|(apply zf;exact rfl;exact rfl)|(apply jk;(iterate 3 exact rfl))|(apply z7;exact rfl)|(apply qu;(iterate 4 exact rfl))|(apply y5;exact cRa)|(apply qd3;exact cRa)|(apply qi;exact rfl;apply qer;exact cRa)|(apply qi;exact rfl;apply pk_f;exact cRa)|(apply qc;exact rfl;apply vr;exact cAo)|(apply jp;exact rfl;exact rfl;exact cOs)|(apply vw;exact rfl;exact rfl)|apply qw|apply qt|(apply qk;exact Tryz.call75;exact qj1 _ _ hg))
   exact qm rfl (ki rfl) ⟨rfl,_,rfl⟩
  ·exact absurd hat (hx n)
 ·rw [ht]
  have hfst:=qtx text [10,10];have pt:=fun h=>zd0 (l:=text) (m:=[10,10]) h;have nc:=qfi (Lib.cut text [10,10]).1 [35,37,103,101,110,32];have mc:=fun st=>qtw text [10,10] st (by omega);generalize Lib.cut text [10,10]=c at hfst pt nc mc;obtain⟨a,b,d⟩:=c;simp only at hfst pt nc mc;repeat' (first|apply qn|apply qf|apply qh|apply qj|apply qg|(apply zf;exact rfl;exact rfl)|(apply qk;exact Tryz.call72;exact mc _)|(apply qk;exact Tryz.call74;exact qki _ _ _))
  refine qft Tryz.call73 ((qon (Lib.trimPrefix a [35,37,103,101,110,32]) _ (by omega)).mono ?_);rintro _ _ ⟨rfl,n,x,rfl,hx⟩
  show AOps _ _ _ _ _ _ _
  have s7:¬ (d=true∧ke n∧wi n=a++[10,10]):=fun ⟨h1,h2,h3⟩=>by
   refine bv n b h2 ?_;rw [h3];exact pt h1
  by_cases hg:ke n
  ·have dj:=qpd hg
   cases d with
   |false=>
    rcases x with _ | ⟨t',y⟩
    all_goals
     repeat' (first|apply qn|apply qf|apply qh|apply qj|apply qg|(apply zf;exact rfl;exact rfl)|(apply z7;exact rfl)|(apply qu;(iterate 4 exact rfl))|(apply qa1;exact cRa)|(apply qaq;exact cRa)|(apply qi;exact rfl;apply qhu;exact cRa)|(apply qi;exact rfl;apply pk_t;exact cRa)|(apply qc;exact rfl;apply cd_t;exact cRa)|apply qt|(apply qk;exact Tryz.call75;exact qj1 _ _ hg))
     exact qm rfl (ki rfl) ⟨rfl,_,rfl⟩
   |true=>
    have a6:wi n≠a++[10,10]:=fun h=>s7 ⟨rfl,hg,h⟩;rcases x with _ | ⟨t',y⟩
    all_goals
     repeat' (first|apply qn|apply qf|apply qh|apply qj|apply qg|(apply zf;exact rfl;exact rfl)|(apply jk;(iterate 3 exact rfl))|(apply z7;exact rfl)|(apply qu;(iterate 4 exact rfl))|(apply y5;exact cRa)|(apply qd3;exact cRa)|(apply qaq;exact cRa)|(apply qi;exact rfl;apply qer;exact cRa)|(apply qi;exact rfl;apply pk_t;exact cRa)|(apply qi;exact rfl;apply pk_f;exact cRa)|(apply qc;exact rfl;apply vf;exact cAo)|(apply qc;exact rfl;apply cd_t;exact cRa)|(apply jp;exact rfl;exact rfl;exact cOs)|(apply w6;exact rfl;exact rfl)|(apply vw;exact rfl;exact rfl)|apply qt|(apply qk;exact Tryz.call75;exact qj1 _ _ hg))
     exact qm rfl (ki rfl) ⟨rfl,_,rfl⟩
  ·cases d
   all_goals
    rcases x with _ | ⟨t',y⟩
    all_goals
     repeat' (first|apply qn|apply qf|apply qh|apply qj|apply qg|(apply zf;exact rfl;exact rfl)|(apply z7;exact rfl)|(apply qu;(iterate 4 exact rfl))|(apply y5;exact cRa)|(apply qa1;exact cRa)|(apply qd3;exact cRa)|(apply qaq;exact cRa)|(apply qi;exact rfl;apply qhu;exact cRa)|(apply qi;exact rfl;apply qer;exact cRa)|(apply qi;exact rfl;apply pk_t;exact cRa)|(apply qi;exact rfl;apply pk_f;exact cRa)|(apply qc;exact rfl;apply cd_t;exact cRa)|(apply w6;exact rfl;exact rfl)|(apply vw;exact rfl;exact rfl)|apply qt|(apply qk;exact Tryz.call75;exact qsj _ _ hg))
     exact qm rfl (ki rfl) ⟨rfl,_,rfl⟩
theorem qhx (n:Int) (st:List AObj):qo E 244 [Iv n] st fun r st'=>r=Bv (decide (ke n))∧st'=st:=by
 refine qx (qq _) (qp Tryz.func244 rfl (Nat.le_of_ble_eq_true rfl) ?_);by_cases h1:1≤n
 ·by_cases h2:n≤2147483648
  all_goals
   repeat' (first|apply qn|apply qf|apply qh|apply qj|apply qg|(apply qs;(iterate 3 exact rfl))|(apply qu;(iterate 4 exact rfl))|(apply wy;exact cAo)|(apply qi;exact rfl;apply wt;exact cAo)|apply qt)
   exact qm rfl (q5 rfl) ⟨congrArg Bv (by simp [ke,h1,h2]),_,rfl⟩
 ·skip
  repeat' (first|apply qn|apply qf|apply qh|apply qj|apply qg|(apply qs;(iterate 3 exact rfl))|(apply qu;(iterate 4 exact rfl))|(apply xb;exact cAo)|(apply qi;exact rfl;apply wj;exact cAo)|apply qt)
  exact qm rfl (q5 rfl) ⟨congrArg Bv (by simp [ke,h1]),_,rfl⟩
theorem q5d (n:Int) (st:List AObj) (h:ke n):qo E 59 [Iv n] st fun r st'=>r=Sv (wi n)∧st'=st:=by
 have h1:=h.1;have h2:=h.2;obtain⟨k,rfl⟩:∃ k:Nat,n=k:=⟨n.toNat,by omega⟩;have hl:=qid (v:=(k:Int)) (by omega) (by omega);refine qx (qq _) (qp Tryz.func59 rfl (Nat.le_of_ble_eq_true rfl) ?_);repeat' (first|(apply q1d;first|apply qn|apply qy|apply qf|(apply qc;exact rfl;apply vf;exact cAo)|(apply qc;exact rfl;apply vr;exact cAo)|(apply qc;exact rfl;apply qi0;exact cRa)|(apply qc;exact rfl;apply qiz;exact cRa)|(apply qc;exact rfl;apply cd_n <;> intro h)|(apply qc;exact rfl;apply cd_t;exact cRa)|(apply qc;exact rfl;apply cd_f;exact cRa)|(apply qc;exact rfl;apply cd_d <;> intro h)|(apply qc;exact rfl;apply cd_s <;> intro h)|(apply qjr;exact rfl;kernel_rfl)|apply qw|apply jd|apply qt)|(apply qt0;first|(apply qu;(iterate 4 exact rfl))|(apply qae;(iterate 4 exact rfl)))|(apply q55;first|(apply wy;exact cAo)|(apply vt;exact cAo)|(apply v7;exact cAo)|(apply xb;exact cAo)|(apply qo6;exact cRa)|(apply y5;exact cRa)|(apply qa1;exact cRa)|(apply qm0;exact cRa)|(apply qgp <;> intro h)|(apply yu;exact cRa)|(apply qd3;exact cRa)|(apply qaq;exact cRa)|(apply w9;exact cRa)|(apply jj <;> intro h)|(apply qfn <;> intro h))|(apply q54;first|apply qh5|(apply qv6;(iterate 4 exact rfl))|(apply q0v;exact rfl;exact rfl;exact q6 (by omega) (by omega))|(apply qv8;(iterate 4 exact rfl);exact cAs;exact cAs)|(apply qll;(iterate 5 exact rfl))|(apply qh4;exact rfl;exact rfl;exact cOs)|(apply qiu;(iterate 3 exact rfl))|(apply qlk;(iterate 5 exact rfl))|(apply qgl;(iterate 4 exact rfl))|(apply qko;(iterate 3 exact rfl))|(apply q0u;(iterate 3 exact rfl);exact cAs)|(apply qv7;exact rfl;exact rfl)|(apply qr2;exact rfl;exact rfl)|(apply qr4;(iterate 3 exact rfl);omega)|(apply qok;(iterate 3 exact rfl))|apply qfx|apply qh3|(apply qtl;exact rfl;exact rfl;exact q6 (by omega) (by omega))|(apply q5x;(iterate 3 exact rfl))|(apply qqc;(iterate 3 exact rfl);exact cAs)|(apply qqb;(iterate 3 exact rfl);exact cAs)|(apply qmo;exact rfl;exact rfl))|(apply qtz;first|(apply qs;(iterate 3 exact rfl))|(apply jk;(iterate 3 exact rfl))|(apply jp;exact rfl;exact rfl;exact cOs)|(apply zl;exact rfl;exact rfl;exact q6 (by omega) (by omega))|(apply xc;exact rfl;exact rfl;exact q6 (by omega) (by omega))|(apply w6;exact rfl;exact rfl)|(apply vw;exact rfl;exact rfl)|(apply qaw;exact rfl;exact rfl)|(apply qde;exact rfl;exact rfl)|(apply qax;(iterate 3 exact rfl))|(apply qfc;(iterate 3 exact rfl))|(apply qc4;exact rfl;exact rfl;(first|exact jb _|exact rfl);first|exact jb _|exact rfl)|(apply qis;exact rfl;exact rfl;(first|exact jb _|exact rfl);first|exact jb _|exact rfl)|(apply qxi;exact rfl;exact rfl;(first|exact jb _|exact rfl);first|exact jb _|exact rfl)|(apply qeg;(iterate 3 exact rfl))|(apply qgi;(iterate 3 exact rfl)))|(apply qx4;first|(apply jn;(iterate 3 exact rfl))|(apply qii;(iterate 5 exact rfl))|(apply jl;(iterate 5 exact rfl)))|(apply qx5;first|(apply qmn;exact rfl)|(apply z7;exact rfl)|(apply qgg;exact rfl))|(apply qt1;first|(apply qa5;(iterate 3 exact rfl);exact cAs)|(apply qfu;(iterate 3 exact rfl);exact cAs)|(apply qfv;(iterate 4 exact rfl);exact cAs;exact cAs)|(apply qg2;(iterate 4 exact rfl);(first|assumption|omega|exact Nat.succ_le_succ (Nat.zero_le _)|(simp;omega));exact rfl))|(apply qx3;first|(apply zo;(iterate 3 exact rfl))|(apply jm;(iterate 4 exact rfl)))|(apply ql4;first|(apply zj;(iterate 3 exact rfl))|(apply xy;(iterate 4 exact rfl)))|(apply qt2;first|(apply qeh;(iterate 11 exact rfl))|(apply z4;(iterate 11 exact rfl)))|(apply q1e;first|apply qh|apply qj|apply qg|(apply zf;exact rfl;exact rfl)|(apply qi;exact rfl;apply wt;exact cAo)|(apply qi;exact rfl;apply wj;exact cAo)|(apply qi;exact rfl;apply qhu;exact cRa)|(apply qi;exact rfl;apply qer;exact cRa)|(apply qi;exact rfl;apply pk_t;exact cRa)|(apply qi;exact rfl;apply pk_f;exact cRa)|(apply vh;exact rfl;exact rfl)|apply qfb|(apply jw;exact rfl;exact rfl)|(apply qbd;(iterate 4 exact rfl))|(apply qit;(iterate 3 exact rfl))|(apply wa;(iterate 3 exact rfl);exact cAs)|(apply xw;(iterate 3 exact rfl))|(apply v6;(iterate 9 exact rfl))|(apply wm;exact rfl;exact rfl)|(apply qhl;(iterate 4 exact rfl);(first|assumption|omega|decide);exact rfl)|(apply qbs;(iterate 4 exact rfl);first|assumption|omega|decide))|(apply qk;exact Tryz.call114;exact qpu k _ (by omega)))
 exact qm rfl (q5 rfl) ⟨rfl,_,rfl⟩
theorem zi1 {l:qa} {k:Nat} (h:10∉l.take k) (hk:l.length≤k∨l.getD k 0=10) (s3:k<l.length∨l.length≤k):upto 10 l=l.take k:=by
 rcases s3 with b4|dq
 ·have e:l.getD k 0=10:=hk.resolve_left (by omega)
  have e2:l=l.take k++10::l.drop (k+1):=by
   conv=>lhs;rw [← List.take_append_drop k l,List.drop_eq_getElem_cons b4]
   congr 2
   simpa [List.getD,b4] using e
  conv=>lhs;rw [e2]
  exact vv _ h
 ·rw [List.take_of_length_le dq] at h ⊢
  exact xg h
set_option maxHeartbeats 4000000 in
theorem q5h (text:qa) (st:List AObj) (hl:text.length<1000000):qo E 177 [Sv text] st fun r st'=>r = .tu [Iv (wl text).1,Sv (wl text).2]∧st'=st:=by
 refine zg [.s text] (jg (qq _) (qq _)) Tryz.func177 rfl rfl (fun _=>rfl) rfl fun S0=>?_;by_cases h9:text.length<9
 ·have ht:wl text=(0,text):=qp3 fun n r hg e=>by
   have:=q6d n;rw [e] at h9;simp [wi,genL] at h9;omega
  rw [ht];apply qd [];repeat' (first|apply And.intro|(intro h;try exact cDd)|exact cSd|apply qb []|refine exr ?_|refine qe ?_)
 ·have hp6:text.take 6=[35,37,103,101,110,32]↔genL <+: text:=by
   rw [List.prefix_iff_eq_take];exact eq_comm
  by_cases hp:genL <+: text
  ·have mv:=hp6.2 hp
   have hd:(text.drop 6).length=text.length - 6:=by simp
   apply qd [];repeat' (first|apply And.intro|(intro h;try exact cDd)|exact absurd mv (by assumption)|exact cSd|apply qb []|refine exr ?_|refine qe ?_)
   refine zw (X:=Nat) (fun k=>⟨[(0,.s text),(4,.i k)],[],0⟩) (fun k=>6≤k∧k≤text.length∧10∉(text.drop 6).take (k - 6)) (fun k=>text.length - k) 6 ⟨by omega,by omega,by simp⟩ ?_ ?_
   ·skip
    repeat' (first|apply And.intro|(intro h;try exact cDd)|exact cSd|apply qb []|refine exr ?_|refine qe ?_)
   rintro k ⟨hk6,hk,bv⟩
   have hgd:(text.drop 6).getD (k - 6) 0=text.getD k 0:=by
    simp only [List.getD_eq_getElem?_getD,List.getElem?_drop];rw [show 6+(k - 6)=k by omega]
   by_cases gx:k<text.length∧text.getD k 0≠10
   ·obtain⟨p1,s3⟩:=gx
    have br:((text.getD k 0).toNat:Int)≠10:=fun e=>s3 ((qbm _).1 e)
    have hno2:10∉(text.drop 6).take (k+1 - 6):=by
     rw [show k+1 - 6=(k - 6)+1 by omega];refine qda (by omega) bv ?_;rw [hgd];exact s3
    apply qd [];repeat' (first|apply And.intro|(intro h;try exact cDd)|(refine Exists.intro (k+1) ⟨⟨by omega,by omega,hno2⟩,by omega,?_⟩)|exact cSd|apply qb []|refine exr ?_|refine qe ?_)
   ·have hu:upto 10 (text.drop 6)=(text.drop 6).take (k - 6):=by
     refine zi1 bv ?_ (by omega);by_cases p1:k<text.length
     ·rw [hgd]
      exact .inr (Classical.byContradiction fun h=>gx ⟨p1,h⟩)
     ·exact .inl (by omega)
    have hul:((text.drop 6).take (k - 6)).length=k - 6:=by simp;omega
    have g9:(text.take k).drop 6=(text.drop 6).take (k - 6):=by rw [List.drop_take]
    have d2:wl text=match numZ ((text.drop 6).take (k - 6)) with
     |some n=>if ke n∧[10,10] <+: text.drop k then (n,text.drop (k+2)) else (0,text)
     |none=>(0,text):=by
     unfold wl;rw [if_pos hp,hu,hul,show 6+(k - 6)=k by omega,show 8+(k - 6)=k+2 by omega]
     try rfl
    rw [d2];have gq:((text.drop 6).take (k - 6)).length<1000000:=by omega
    by_cases p1:k<text.length
    ·have s3:text.getD k 0=10:=Classical.byContradiction fun h=>gx ⟨p1,h⟩
     have br:((text.getD k 0).toNat:Int)=10:=(qbm _).2 s3
     cases hz:numZ ((text.drop 6).take (k - 6)) with
     |none=>
      rw [← g9] at hz;have hnN:=fun st=>qgv _ st (by rw [g9];omega) hz;apply qd []
      repeat' (first|apply And.intro|(intro h;try exact cDd)|exact⟨Tryz.call145⟩|refine cpe hnN ?_|exact cSd|apply qb []|refine exr ?_|refine qe ?_)
     |some n=>
      rw [← g9] at hz;have hnS:=fun st=>qea _ n st (by rw [g9];omega) hz;simp only;by_cases hg:ke n
      ·have hg1:decide (ke n)=true:=decide_eq_true hg
       have gx:=fun st=>qhx n st;simp only [hg1] at gx;by_cases hk4:text.length≤k+1
       ·have hnp:¬ [10,10] <+: text.drop k:=fun ⟨q,hq⟩=>by
         have:=congrArg List.length hq;simp at this;omega
        rw [if_neg (fun h=>hnp h.2)];apply qd [];repeat' (first|apply And.intro|(intro h;try exact cDd)|exact⟨Tryz.call145⟩|refine cpe hnS ?_|exact⟨Tryz.call244⟩|refine cpe gx ?_|exact cSd|apply qb []|refine exr ?_|refine qe ?_)
       ·have e2:text.drop k=text.getD k 0::text.getD (k+1) 0::text.drop (k+2):=by
         rw [List.drop_eq_getElem_cons p1,List.drop_eq_getElem_cons (show k+1<text.length by omega)];simp [List.getD,p1,show k+1<text.length by omega]
        by_cases hk5:text.getD (k+1) 0=10
        ·have hk6':((text.getD (k+1) 0).toNat:Int)=10:=(qbm _).2 hk5
         have hk7:¬ ((text.getD (k+1) 0).toNat:Int)≠10:=fun h=>h hk6';rw [if_pos ⟨hg,by rw [e2,s3,hk5];exact⟨_,rfl⟩⟩];apply qd [];repeat' (first|apply And.intro|(intro h;try exact cDd)|exact⟨Tryz.call145⟩|refine cpe hnS ?_|exact⟨Tryz.call244⟩|refine cpe gx ?_|exact cSd|apply qb []|refine exr ?_|refine qe ?_)
         all_goals exact absurd hk6' (by assumption)
        ·have hk6':¬ ((text.getD (k+1) 0).toNat:Int)=10:=fun e=>hk5 ((qbm _).1 e)
         rw [if_neg (fun h=>by
          obtain⟨q,hq⟩:=h.2;rw [e2] at hq
          exact hk5 (List.cons.inj (List.cons.inj hq).2).1.symm)]
         apply qd [];repeat' (first|apply And.intro|(intro h;try exact cDd)|exact⟨Tryz.call145⟩|refine cpe hnS ?_|exact⟨Tryz.call244⟩|refine cpe gx ?_|exact cSd|apply qb []|refine exr ?_|refine qe ?_)
         all_goals exact absurd hk6' (by assumption)
      ·have hg1:decide (ke n)=false:=decide_eq_false hg
       have gx:=fun st=>qhx n st;simp only [hg1] at gx;rw [if_neg (fun h=>hg h.1)];apply qd [];repeat' (first|apply And.intro|(intro h;try exact cDd)|exact⟨Tryz.call145⟩|refine cpe hnS ?_|exact⟨Tryz.call244⟩|refine cpe gx ?_|exact cSd|apply qb []|refine exr ?_|refine qe ?_)
    ·have hke:k=text.length:=by omega
     have hnp:¬ [10,10] <+: text.drop k:=fun ⟨q,hq⟩=>by
      have:=congrArg List.length hq;simp at this;omega
     cases hz:numZ ((text.drop 6).take (k - 6)) with
     |none=>
      rw [← g9] at hz;have hnN:=fun st=>qgv _ st (by rw [g9];omega) hz;apply qd []
      repeat' (first|apply And.intro|(intro h;try exact cDd)|exact⟨Tryz.call145⟩|refine cpe hnN ?_|exact cSd|apply qb []|refine exr ?_|refine qe ?_)
     |some n=>
      rw [← g9] at hz;have hnS:=fun st=>qea _ n st (by rw [g9];omega) hz;simp only;rw [if_neg (fun h=>hnp h.2)];by_cases hg:ke n
      ·have hg1:decide (ke n)=true:=decide_eq_true hg
       have gx:=fun st=>qhx n st;simp only [hg1] at gx;apply qd [];repeat' (first|apply And.intro|(intro h;try exact cDd)|exact⟨Tryz.call145⟩|refine cpe hnS ?_|exact⟨Tryz.call244⟩|refine cpe gx ?_|exact cSd|apply qb []|refine exr ?_|refine qe ?_)
      ·have hg1:decide (ke n)=false:=decide_eq_false hg
       have gx:=fun st=>qhx n st;simp only [hg1] at gx;apply qd [];repeat' (first|apply And.intro|(intro h;try exact cDd)|exact⟨Tryz.call145⟩|refine cpe hnS ?_|exact⟨Tryz.call244⟩|refine cpe gx ?_|exact cSd|apply qb []|refine exr ?_|refine qe ?_)
  ·have mv:text.take 6≠[35,37,103,101,110,32]:=fun h=>hp (hp6.1 h)
   have ht:wl text=(0,text):=by unfold wl;rw [if_neg hp]
   rw [ht];apply qd [];repeat' (first|apply And.intro|(intro h;try exact cDd)|exact absurd mv (by assumption)|exact cSd|apply qb []|refine exr ?_|refine qe ?_)
@[reducible] def qgs (L : List LnV) : AV := .sl 1 (L.map fun x => Iv (qv x.text)) none
def qhv (L:List LnV):Nat→Bool
 | 0=>false
 |j+1=>match L[j]? with
  |some x=>decide (qv x.text=4∨qv x.text=3)
  |none=>false
theorem qk7 {L:List LnV} {i:Nat} {x:LnV} (h:L[i]? = some x):(L.map fun x=>Iv (qv x.text))[i]? = some (Iv (qv x.text)):=by simp [h]
theorem qjl {L:List LnV} {i:Nat} {x:LnV} (h:L[i]? = some x):(L.map lnA)[i]? = some (lnA x):=by simp [h]
theorem qzq (L:List LnV) (i:Nat) (st:List AObj) (hi:i≤L.length) (hL:L.length<1000000):qo E 222 [qgs L,Iv i] st fun r st'=>r=Bv (qhv L i)∧st'=st:=by
 refine zg [.a (qgs L),.i i] (qq _) Tryz.func222 rfl rfl (fun _=>rfl) rfl fun S0=>?_
 cases i with
 |zero=>
  apply qd []
  repeat' (first|apply And.intro|(intro h;try exact cDd)|exact cSd|apply qb []|refine exr ?_|refine qe ?_)
 |succ j=>
  obtain⟨x,hx⟩:∃ x,L[j]? = some x:=⟨_,List.getElem?_eq_getElem (by omega)⟩;have b5:=qk7 hx;have hp:qhv L (j+1)=decide (qv x.text=4∨qv x.text=3):=by simp only [qhv,hx]
  rw [hp];apply qd [];repeat' (first|apply And.intro|(intro h;try exact cDd)|(refine Exists.intro (j) ⟨by omega,_,b5,?_⟩)|exact cSd|apply qb []|refine exr ?_|refine qe ?_)
  all_goals (simp [*];done)
theorem qx6 {L:List LnV} {k:Nat} {x:LnV} (h:L[k]? = some x):(L.drop k).map wc=(x.text,x.ended)::(L.drop (k+1)).map wc:=by
 obtain⟨b4,he⟩:=List.getElem?_eq_some_iff.1 h;rw [List.drop_eq_getElem_cons b4,he];rfl
def qh0 (L:List LnV) (i:Nat) (x:LnV):List qa:=x.text::kw ((L.drop (i+1)).map wc)
theorem q2b:∀ (r:List (qa×Bool)),(kw r).length≤r.length
 | []=>by simp [kw]
 |(t,e)::r=>by
  have:=q2b r;rw [kw];split <;> simp <;> omega
theorem q2c:∀ {r:List (qa×Bool)} {n:Nat},(∀ p∈r,p.1.length≤n)→∀ s∈kw r,s.length≤n
 | [],_,_,s,hs=>by simp [kw] at hs
 |(t,e)::r,n,h,s,hs=>by
  rw [kw] at hs;split at hs
  ·rcases List.mem_cons.1 hs with rfl|hs
   ·exact h (s,e) (by simp)
   ·exact q2c (fun p hp=>h p (by simp [hp])) s hs
  ·simp at hs
structure LnsB (L:List LnV):Prop where
 len:L.length<100000
 val:∀ x∈L,x.text.length<100000
theorem LnsB.said {L:List LnV} (h:LnsB L) {i:Nat} {x:LnV} (hx:L[i]? = some x):LsB (qh0 L i x):=by
 have h1:=q2b ((L.drop (i+1)).map wc);have h2:=h.len;have h3:=h.val x (List.mem_of_getElem? hx);refine⟨?_,fun s hs=>?_⟩
 ·unfold qh0
  simp at h1 ⊢;omega
 ·rcases List.mem_cons.1 hs with rfl|hs
  ·omega
  ·have:=q2c (n:=100000) (fun p hp=>by
    obtain⟨y,hy,rfl⟩:=List.mem_map.1 hp;have:=h.val y (List.mem_of_mem_drop hy);simp only [wc]
    omega) s hs
   omega
theorem qrv (L:List LnV) (i:Nat) (x:LnV) (st:List AObj) (hL:LnsB L) (hx:L[i]? = some x):qo E 141 [lnsA L,qgs L,Iv i] st fun r st'=>r=Ss (qh0 L i x)∧st'=st:=by
 refine zg [.a (lnsA L),.a (qgs L),.i i] (qma _) Tryz.func141 rfl rfl (fun _=>rfl) rfl fun S0=>?_;have hLl:=hL.len;have db:=lt_of_getElem? hx;have b5:=qjl hx;have e8:(L.map lnA).length=L.length:=by simp
 apply qd [14];repeat' (first|apply And.intro|(intro h;try exact cDd)|(refine Exists.intro (i) ⟨by omega,_,b5,?_⟩)|exact cSd|apply qb [14]|refine exr ?_|refine qe ?_)
 refine zw (X:=Nat×List qa) (fun (k,acc)=>⟨[(0,.a (lnsA L)),(1,.a (qgs L)),(7,.tp 0),(8,.i k)],[(0,some (.tip 1 9 (acc.map fun x=>Sv x)))],1⟩) (fun (k,acc)=>i+1≤k∧k≤L.length∧acc++kw ((L.drop k).map wc)=qh0 L i x∧acc.length≤k) (fun (k,_)=>L.length - k) (i+1,[x.text]) ⟨by omega,by omega,rfl,by simp⟩ ?_ ?_
 ·skip
  repeat' (first|apply And.intro|(intro h;try exact cDd)|exact cSd|apply qb []|refine exr ?_|refine qe ?_)
  all_goals (simp;done)
 ·rintro⟨k,acc⟩ ⟨p1,s3,s6,sm⟩
  have hmc:(acc.map fun x=>Sv x).length=acc.length:=by simp
  by_cases hk:k<L.length
  ·obtain⟨y,hy⟩:∃ y,L[k]? = some y:=⟨_,List.getElem?_eq_getElem hk⟩
   have hgy:=qjl hy;have ld:=qk7 hy;rw [qx6 hy] at s6;by_cases h3:qv y.text=3
   ·rw [qht h3] at s6
    apply qd [];repeat' (first|apply And.intro|(intro h;try exact cDd)|(refine Exists.intro (k) ⟨by omega,_,hgy,?_⟩)|(refine Exists.intro (k) ⟨by omega,_,ld,?_⟩)|(refine Exists.intro (k+1,acc++[y.text]) ⟨⟨by omega,by omega,by simpa using s6,by simp;omega⟩,by simp only;omega,?_⟩)|exact cSd|apply qb []|refine exr ?_|refine qe ?_)
    all_goals (simp;done)
   ·rw [qnd h3,List.append_nil] at s6
    rw [← s6];apply qd [];repeat' (first|apply And.intro|(intro h;try exact cDd)|(refine Exists.intro (k) ⟨by omega,_,ld,?_⟩)|exact cSd|apply qb []|refine exr ?_|refine qe ?_)
  ·rw [List.drop_eq_nil_of_le (by omega),List.map_nil,kw,List.append_nil] at s6
   rw [← s6];apply qd [];repeat' (first|apply And.intro|(intro h;try exact cDd)|exact cSd|apply qb []|refine exr ?_|refine qe ?_)
theorem q3i (L:List LnV) (i:Nat) (x:LnV) (n:Nat) (rec:Int) (st:List AObj) (hL:LnsB L) (hx:L[i]? = some x):qo E 139 [lnsA L,qgs L,Iv i,Iv n,Iv rec] st fun r st'=>r=Iv (kh (qhv L i) x.text x.ended ((L.drop (i+1)).map wc) n rec)∧st'=st:=by
 refine zg [.a (lnsA L),.a (qgs L),.i i,.i n,.i rec] (qq _) Tryz.func139 rfl rfl (fun _=>rfl) rfl fun S0=>?_;have hLl:=hL.len;have db:=lt_of_getElem? hx;have hgy:=qjl hx;have ld:=qk7 hx;have dw:=fun st=>qzq L i st (by omega) (by omega);have hsa:=fun st=>qrv L i x st hL hx;have n6:=fun st=>qkc (qh0 L i x) st (hL.said hx);unfold qb8 at n6;unfold kh;have hsd:x.text::kw ((L.drop (i+1)).map wc)=qh0 L i x:=rfl;rw [hsd];generalize qhv L i=pv at *;generalize qh0 L i x=sl at *;generalize (zr sl).2=u at *;obtain⟨xn,xa,xt,xe⟩:=x;dsimp only at *;apply qd [];repeat' (first|apply And.intro|(intro h;try exact cDd)|(refine Exists.intro (i) ⟨by omega,_,ld,?_⟩)|(refine Exists.intro (i) ⟨by omega,_,hgy,?_⟩)|exact⟨Tryz.call222⟩|refine cpe dw ?_|exact⟨Tryz.call141⟩|refine cpe hsa ?_|exact⟨Tryz.call140⟩|refine cpe n6 ?_|exact cSd|apply qb []|refine exr ?_|refine qe ?_)
 all_goals clear dw hsa n6 hgy ld
 all_goals (simp_all <;> omega)
end Go.Proofs.YtneejjefekdgjaaGreatDoor
namespace Go.Pl
open Go Go.Proofs Go.Proofs.YtneejjefekdgjaaGreatDoor
theorem qu9 (l:qa):(zh l).1=1∨(zh l).1=2∨(zh l).1=3:=by
 unfold zh;split
 ·split
  ·split
   ·unfold x8
    split <;> simp
   ·split
    ·unfold xm
     split
     ·simp
     ·split <;> simp
    ·simp
  ·simp
 ·split <;> simp
theorem qyx {l:qa} (h1:(zh l).1=1):∃ k:Nat,(zh l).2.2=(k:Int)∧0<k∧k≤l.length:=by
 obtain⟨_,m,hm,hn⟩:=qva (show zh l=(1,(zh l).2.1,(zh l).2.2) by rw [← h1]);refine⟨_,hn,?_,?_⟩
 ·rw [qqp]
  simp [recL,wh,zb]
 ·have:=congrArg List.length hm
  rw [List.length_append] at this;omega
theorem qn8 {l:qa}:(zh l).2.1.length≤l.length:=by
 have hp:=va 10 l;unfold zh;split
 ·split
  ·split
   ·simp
   ·split
    ·unfold xm
     split
     ·simp
     ·split
      ·simp;omega
      ·simp
    ·simp
  ·simp
 ·split <;> simp
theorem qoo (l:qa):je l.length l≤l.length:=(qop _ _ _ (Nat.le_refl _) (Nat.le_refl _)).2
theorem qvc {f:Nat} {l:qa} {a:Int} {bs:List (List qr)} {es:List Int} (h:(zh l).1=2):recsF (f+1) l a bs es=(false,bs,es,l):=by
 rw [recsF,if_pos h]
theorem qyz {f:Nat} {l:qa} {a:Int} {bs:List (List qr)} {es:List Int} (h:(zh l).1=3):recsF (f+1) l a bs es=(true,bs,es,l):=by
 rw [recsF,if_neg (by rw [h];decide),if_neg (by rw [h];decide)]
theorem qyy {f:Nat} {l:qa} {a:Int} {bs:List (List qr)} {es:List Int} (h:(zh l).1=1) (hd:decF (zh l).2.1=none):recsF (f+1) l a bs es=(true,bs,es,l):=by
 rw [recsF,if_neg (by rw [h];decide),if_pos h,hd]
theorem qvb {f k:Nat} {l:qa} {a:Int} {bs:List (List qr)} {es:List Int} {b:List qr} (h:(zh l).1=1) (hd:decF (zh l).2.1=some b) (hk:(zh l).2.2=(k:Int)):recsF (f+1) l a bs es=recsF f (l.drop k) (a+k) (bs++[b]) (es++[a+k]):=by
 rw [recsF,if_neg (by rw [h];decide),if_pos h,hd,hk];rfl
end Go.Pl
namespace Go.Proofs.YtneejjefekdgjaaGreatDoor
open Go Go.Av Go.RowKit Go.Proofs Go.Pl
@[reducible] def yf (es : List Int) : AV := .sl 1 (es.map fun x => Iv x) none
@[reducible] def qfk (bs : List (List qr)) : AV := .sl 1 (bs.map jo) none
@[reducible] def qbx (b : vz) : AV := .ag [Iv b.gen, Sv b.base, qfk b.batches, yf b.ends, Sv b.tail]
theorem zjb (l:qa) (b:Bool) (st:List AObj) (hl:l.length<4294967281) (h:begF l=b):qo E 118 [Sv l] st fun r st'=>r=Bv b∧st'=st:=by
 subst h;exact zdo l st hl
theorem zdn (text:qa) (st:List AObj) (hl:text.length<1000000):qo E 65 [Sv text] st fun r st'=>r=Iv ((je text.length text:Nat):Int)∧st'=st:=by
 refine zg [.s text] (qq _) Tryz.func65 rfl rfl (fun _=>rfl) rfl fun S0=>?_;apply qd [];repeat' (first|apply And.intro|(intro h;try exact cDd)|exact⟨Tryz.call67⟩|(refine Exists.intro _ ⟨qnr _,?_⟩)|exact cSd|apply qb []|refine exr ?_|refine qe ?_)
 refine qhd (X:=Int) text 1 2 [0,1] (fun r=>⟨[(0,.s text),(2,.bx 0 0),(5,.fn (.func 121) [] [.bx 1 0])],[(0,some (.cells 3 [.i r])),(1,some (.cells 9 [.s text]))],2⟩) _
  (fun k rest r=>r=0∧rest.length≤text.length∧je text.length text=je text.length rest) (fun c r=>c = .ret∧r=((je text.length text:Nat):Int)) 0 ⟨rfl,by omega,rfl⟩ ?_ id (by omega) (fun _=>rfl) rfl (fun _=>rfl) (fun _=>rfl) rfl ?_ ?_ ?_
 ·skip
  repeat' (first|apply And.intro|(intro h;try exact cDd)|exact cSd|apply qb []|refine exr ?_|refine qe ?_)
 ·rintro k rest r ⟨rfl,t7,sq⟩ a6 b0
  have hu:=kz 10 rest;have bd:=va 10 rest;have hbg:=fun st=>zjb (upto 10 rest) _ st (by omega) rfl;unfold qm8;by_cases hb:begF (upto 10 rest)=true
  ·rw [hb] at hbg
   have hv:((text.length:Int) - rest.length)=((je text.length text:Nat):Int):=by
    rw [sq,qmr a6 hb];omega
   refine RA.mk fun S F ρ rd=>?_;apply qd [];repeat' (first|apply And.intro|(intro h;try exact cDd)|(refine RB.mk fun S rd=>?_;apply qd [])|exact⟨Tryz.call118⟩|refine cpe hbg ?_|(refine Exists.intro _ ⟨⟨rfl,hv⟩,?_⟩)|exact cSd|apply qb []|refine exr ?_|refine qe ?_)
  ·have lx:begF (upto 10 rest)=false:=by simpa using hb
   rw [lx] at hbg;refine RA.mk fun S F ρ rd=>?_;apply qd [];repeat' (first|apply And.intro|(intro h;try exact cDd)|(refine RB.mk fun S rd=>?_;apply qd [])|exact⟨Tryz.call118⟩|refine cpe hbg ?_|(refine Exists.intro 0 ⟨⟨rfl,by omega,by rw [sq,qoq a6 (by rw [lx];decide)]⟩,?_⟩)|exact cSd|apply qb []|refine exr ?_|refine qe ?_)
 ·rintro k r ⟨rfl,t7,sq⟩
  rw [qiy] at sq;rw [sq];repeat' (first|apply And.intro|(intro h;try exact cDd)|exact cSd|apply qb []|refine exr ?_|refine qe ?_)
 ·rintro c r ⟨rfl,rfl⟩
  repeat' (first|apply And.intro|(intro h;try exact cDd)|exact cSd|apply qb []|refine exr ?_|refine qe ?_)
theorem yy {a b c:AV} (h1:Pure a) (h2:Pure b) (h3:Pure c):Pure (.tu [a,b,c]):=qdo fun z hz=>by
 simp only [List.mem_cons,List.not_mem_nil,or_false] at hz;rcases hz with rfl|rfl|rfl
 ·exact h1
 ·exact h2
 ·exact h3
def qb7 (text:qa):AV:=if 60000<text.length then .tu [j5 [],Iv (-9),Iv 1] else match (ja text).1 with
 |some e=>.tu [j5 [],Iv e.1,Iv e.2]
 |none=>.tu [j5 (ja text).2,Iv (-9),Iv 0]
theorem qww (text:qa):Pure (qb7 text):=by
 unfold qb7;split
 ·exact yy (qak _) (qq _) (qq _)
 ·split
  ·exact yy (qak _) (qq _) (qq _)
  ·exact yy (qak _) (qq _) (qq _)
theorem q8v {L:List LnV} {k:Nat} {x:LnV} (h:L[k]? = some x):qhv L (k+1)=decide (qv x.text=4∨qv x.text=3):=by simp only [qhv,h]
set_option maxHeartbeats 2000000 in
theorem qpv (text:qa) (st:List AObj) (hl:text.length<1000000):qo E 78 [Sv text] st fun r st'=>r=qb7 text∧st'=st:=by
 refine zg [.s text] (qww text) Tryz.func78 rfl rfl (fun _=>rfl) rfl fun S0=>?_;by_cases l8:60000<text.length
 ·have e:qb7 text = .tu [j5 [],Iv (-9),Iv 1]:=if_pos l8
  rw [e];apply qd [];repeat' (first|apply And.intro|(intro h;try exact cDd)|exact cSd|apply qb []|refine exr ?_|refine qe ?_)
 have hRA:qb7 text=match (ja text).1 with
  |some e=>.tu [j5 [],Iv e.1,Iv e.2]
  |none=>.tu [j5 (ja text).2,Iv (-9),Iv 0]:=if_neg l8
 rw [hRA];clear hRA;obtain⟨L,hL⟩:∃ L,L=lns text:=⟨_,rfl⟩;have hLl:L.length≤text.length:=by rw [hL];exact qcz _ text 0 0 (Nat.le_refl _)
 have hLB:LnsB L:=⟨by omega,fun x hx=>by have:=qus _ text 0 0 (Nat.le_refl _) x (by rw [hL] at hx;exact hx);omega⟩
 have a4:refL 0 ((L.drop 0).map wc) (qhv L 0) ⟨2,[],[]⟩ 0 []=ja text:=by
  rw [List.drop_zero,hL,qpg];exact qdp text
 have e8:(L.map lnA).length=L.length:=by simp
 have hspl:∀ st,qo E 137 [Sv text] st fun r st'=>r=lnsA L∧st'=st:=fun st=>by rw [hL];exact qjb text st (by omega)
 clear hL;generalize ja text=PF at a4;apply qd [];repeat' (first|apply And.intro|(intro h;try exact cDd)|exact⟨Tryz.call137⟩|refine cpe hspl ?_|exact cSd|apply qb []|refine exr ?_|refine qe ?_)
 refine zw (X:=Nat) (fun k=>⟨[(5,.a (lnsA L)),(6,.tp 0),(7,.i k)],[(0,some (.tip 1 3 ((L.take k).map fun x=>Iv (qv x.text))))],1⟩) (fun k=>k≤L.length) (fun k=>L.length - k) 0 (by omega) ?_ ?_
 ·skip
  repeat' (first|apply And.intro|(intro h;try exact cDd)|exact cSd|apply qb []|refine exr ?_|refine qe ?_)
 ·intro k hk
  by_cases hkl:k<L.length
  ·obtain⟨x,hx⟩:∃ x,L[k]? = some x:=⟨_,List.getElem?_eq_getElem hkl⟩
   have hgx:=qjl hx;have hxl:=hLB.val x (List.mem_of_getElem? hx);have gn:=fun st=>qie x.text st (by omega);apply qd [];repeat' (first|apply And.intro|(intro h;try exact cDd)|(refine Exists.intro _ ⟨rfl,_,hgx,?_⟩)|exact⟨Tryz.call138⟩|refine cpe gn ?_|(refine Exists.intro (k+1) ⟨by omega,by omega,?_⟩)|exact cSd|apply qb []|refine exr ?_|refine qe ?_)
   rw [List.take_add_one,hx];simp
  ·have e:L.take k=L:=List.take_of_length_le (by omega)
   apply qd [];repeat' (first|apply And.intro|(intro h;try exact cDd)|exact cSd|apply qb []|refine exr ?_|refine qe ?_)
   refine zw (X:=Nat×ze×Int×List ze) (fun (k,⟨nk,nr,nf⟩,rec,out)=>⟨[(5,.a (lnsA L)),(6,.a (qgs L)),(8,.tp 0),(9,.bx 1 0),(10,.i rec),(11,.i k)],
     [(0,some (.tip 3 52 (out.map jh))),(1,some (.cells 52 [.i nk,.s nr,.tp 2])),(2,some (.tip 2 111 (nf.map fldA)))],3⟩)
    (fun (k,now,rec,out)=>k≤L.length∧refL k ((L.drop k).map wc) (qhv L k) now rec out=PF∧0≤rec∧rec≤k∧out.length≤2 * k∧now.fields.length≤k∧now.raw.length≤200000 * k) (fun x=>L.length - x.1) (0,⟨2,[],[]⟩,0,[])
    ⟨by omega,a4,by omega,by omega,by simp,by simp,by simp⟩ ?_ ?_
   ·skip
    repeat' (first|apply And.intro|(intro h;try exact cDd)|(refine qe ?_;rw [e])|exact cSd|apply qb []|refine exr ?_|refine qe ?_)
   ·rintro⟨j,⟨nk,nr,nf⟩,rec,out⟩ ⟨hj,hR,sc,hr1,fm,d8,t7⟩
    simp only at d8 t7;by_cases hjl:j<L.length
    ·obtain⟨x,hx⟩:∃ x,L[j]? = some x:=⟨_,List.getElem?_eq_getElem hjl⟩
     have hgx:=qjl hx;have hkx:=qk7 hx;have hxl:=hLB.val x (List.mem_of_getElem? hx);have hwr:∀ st,qo E 139 [lnsA L,qgs L,Iv j,Iv ((nf.map fldA).length:Nat),Iv rec] st fun r st'=>r=Iv (kh (qhv L j) x.text x.ended ((L.drop (j+1)).map wc) nf.length rec)∧st'=st:=fun st=>by rw [List.length_map];exact q3i L j x nf.length rec st hLB hx
     have hsa:=fun st=>qrv L j x st hLB hx;have n6:=fun st=>qkc (qh0 L j x) st (hLB.said hx);unfold qb8 at n6;have hpv:=q8v hx;have hsd:x.text::kw ((L.drop (j+1)).map wc)=qh0 L j x:=rfl;rw [qx6 hx,refL,hsd] at hR;simp only at hR;by_cases h1:qv x.text=1
     ·apply qd []
      repeat' (first|apply And.intro|(intro h;try exact cDd)|(refine Exists.intro _ ⟨rfl,_,hgx,?_⟩)|(refine Exists.intro _ ⟨rfl,_,hkx,?_⟩)|exact⟨Tryz.call139⟩|refine cpe hwr ?_|exact⟨Tryz.call141⟩|refine cpe hsa ?_|exact⟨Tryz.call140⟩|refine cpe n6 ?_|(rw [if_pos (by assumption)] at hR;rw [← hR];exact qqs _)|(refine Exists.intro (j+1,⟨2,[],[]⟩,rec,outR ⟨nk,nr,nf⟩ out++[⟨1,x.text++[10],[]⟩]) ⟨?_,by simp only;omega,?_⟩)|exact cSd|apply qb []|refine exr ?_|refine qe ?_)
      all_goals first|grind [outR]|(simp [outR,jh, *] at hR ⊢;done)|(simp [outR,jh, *] at hR ⊢;omega)
     ·by_cases h4:qv x.text=4
      ·apply qd []
       repeat' (first|apply And.intro|(intro h;try exact cDd)|(refine Exists.intro _ ⟨rfl,_,hgx,?_⟩)|(refine Exists.intro _ ⟨rfl,_,hkx,?_⟩)|exact⟨Tryz.call139⟩|refine cpe hwr ?_|exact⟨Tryz.call141⟩|refine cpe hsa ?_|exact⟨Tryz.call140⟩|refine cpe n6 ?_|(rw [if_pos (by assumption)] at hR;rw [← hR];exact qqs _)|(refine Exists.intro (j+1,⟨3,nr++x.text++[10],nf++[(zr (qh0 L j x)).1]⟩,if nk=2 then rec+1 else rec,out) ⟨?_,by simp only;omega,?_⟩)|exact cSd|apply qb []|refine exr ?_|refine qe ?_)
       all_goals first|grind [outR]|(simp [outR,jh, *] at hR ⊢;done)|(simp [outR,jh, *] at hR ⊢;omega)
      ·apply qd []
       repeat' (first|apply And.intro|(intro h;try exact cDd)|(refine Exists.intro _ ⟨rfl,_,hgx,?_⟩)|(refine Exists.intro _ ⟨rfl,_,hkx,?_⟩)|exact⟨Tryz.call139⟩|refine cpe hwr ?_|exact⟨Tryz.call141⟩|refine cpe hsa ?_|exact⟨Tryz.call140⟩|refine cpe n6 ?_|(rw [if_pos (by assumption)] at hR;rw [← hR];exact qqs _)|(refine Exists.intro (j+1,⟨nk,nr++x.text++[10],nf⟩,rec,out) ⟨?_,by simp only;omega,?_⟩)|exact cSd|apply qb []|refine exr ?_|refine qe ?_)
       all_goals first|grind [outR]|(simp [outR,jh, *] at hR ⊢;done)|(simp [outR,jh, *] at hR ⊢;omega)
    ·have e:(L.drop j).map wc=[]:=by rw [List.drop_eq_nil_of_le (by omega)];rfl
     rw [e,refL] at hR;rw [← hR];apply qd [];repeat' (first|apply And.intro|(intro h;try exact cDd)|exact cSd|apply qb []|refine exr ?_|refine qe ?_)
     all_goals first|grind [outR]|(simp [outR,jh, *] at hR ⊢;done)|(simp [outR,jh, *] at hR ⊢;omega)
theorem q1g (b:List qr):qmj (jo b):=fun y hy=>by
 simp only [AV.cells,List.mem_cons,List.not_mem_nil,or_false] at hy;subst hy;exact qe5 _
theorem qzk (bs:List (List qr)):Pure (qfk bs):=qbq fun x hx=>by
 obtain⟨b,_,rfl⟩:=List.mem_map.1 hx;exact q1g b
theorem qa2 (es:List Int):Pure (yf es):=qbq fun x hx=>by
 obtain⟨b,_,rfl⟩:=List.mem_map.1 hx;intro y hy;simp only [AV.cells,List.mem_cons,List.not_mem_nil,or_false] at hy;subst hy;exact qq _
theorem qgm (b:vz):Pure (qbx b):=qmb fun x hx=>by
 simp only [List.mem_cons,List.not_mem_nil,or_false] at hx;rcases hx with rfl|rfl|rfl|rfl|rfl
 ·exact qq _
 ·exact qq _
 ·exact qzk _
 ·exact qa2 _
 ·exact qq _
def qos (x:ErrV×vz):AV:=.tu [qbx x.2,errA x.1]
theorem q4h (x:ErrV×vz):Pure (qos x):=jg (qgm _) (km _)
theorem q5m (text:qa) (st:List AObj) (hl:60000<text.length) (h2:text.length<1000000):qo E 23 [Sv text] st fun r st'=>r = .tu [j5 [],errA (.num 1)]∧st'=st:=by
 refine zg [.s text] (jg (qak _) (km _)) Tryz.func23 rfl rfl (fun _=>rfl) rfl fun S0=>?_;apply qd [];repeat' (first|apply And.intro|(intro h;try exact cDd)|exact cSd|apply qb []|refine exr ?_|refine qe ?_)
def itsE (text:qa):List ze:=if 60000<text.length then [] else (ja text).2
theorem qp0 (text:qa) (st:List AObj) (hl:text.length<1000000):qo E 23 [Sv text] st fun r st'=>r = .tu [j5 (itsE text),errA (z8 text)]∧st'=st:=by
 unfold z8 itsE;by_cases hb:60000<text.length
 ·rw [if_pos hb,if_pos hb]
  exact q5m text st hb hl
 ·rw [if_neg hb,if_neg hb]
  have:=qsz text st (by omega);unfold qd9 at this;rcases hp:(ja text).1 with _ | ⟨x,y⟩
  ·rw [hp] at this
   exact this
  ·rw [hp] at this
   exact this
theorem q02 (gen:Int) (base text:qa) (a:Nat) (hl:text.length<1000000) (ha:a≤text.length) (r:SV) (o0:List (Nat×Option SR)) (nx1:Nat) (R:Bool×List (List qr)×List Int×qa) (hR:Go.Pl.recsF (text.length+1) (text.drop a) a [] []=R)
  (hok:R.1=false→r = .a (.v .nilIface)∧o0=[(0,some (.cells 41 [.i gen,.s base,.tp 1,.tp 2,.s R.2.2.2])),(1,some (.tip 1 90 (R.2.1.map jo))),(2,some (.tip 1 3 (R.2.2.1.map fun x=>Iv x)))]∧nx1=3)
  (s7:R.1=true→r = .a (errA (.at' R.2.1.length 10))∧o0=[]∧nx1=1):v4 E 66 [.bx 0 0,.s text,.i a] 1 (hpF [(0,some (.cells 41 [.i gen,.s base,.a zp,.a zp,.s []]))]) ⟨r,wb [(0,some (.cells 41 [.i gen,.s base,.a zp,.a zp,.s []]))],o0++ww [(0,some (.cells 41 [.i gen,.s base,.a zp,.a zp,.s []]))],nx1⟩:=by
 refine yj [.bx 0 0,.s text,.i a] [(0,some (.cells 41 [.i gen,.s base,.a zp,.a zp,.s []]))] 1 r o0 nx1 Tryz.func66 rfl rfl rfl ?_ fun S F ρ=>?_
 ·cases h:R.1 with
  |false=>obtain⟨rfl,rfl,rfl⟩:=hok h;rfl
  |true=>obtain⟨rfl,rfl,rfl⟩:=s7 h;rfl
 apply qd [];repeat' (first|apply And.intro|(intro h;try exact cDd)|exact cSd|apply qb []|refine exr ?_|refine qe ?_)
 refine zw (X:=Nat×Nat×List (List qr)×List Int) (fun (k,f,bs,es)=>⟨[(0,.bx 0 0),(1,.s text),(2,.i k)],[(0,some (.cells 41 [.i gen,.s base,.tp 1,.tp 2,.s []])),(1,some (.tip 1 90 (bs.map jo))),(2,some (.tip 1 3 (es.map fun x=>Iv x)))],3⟩)
  (fun (k,f,bs,es)=>k≤text.length∧text.length - k<f∧Go.Pl.recsF f (text.drop k) k bs es=R∧bs.length≤k∧es.length≤k) (fun x=>text.length - x.1) (a,text.length+1,[],[]) ⟨ha,by omega,hR,by simp,by simp⟩ ?_ ?_
 ·skip
  repeat' (first|apply And.intro|(intro h;try exact cDd)|exact cSd|apply qb []|refine exr ?_|refine qe ?_)
 ·rintro⟨k,f,bs,es⟩ ⟨hk,hf,hR,bn,gb⟩
  obtain⟨f,rfl⟩:∃ f',f=f'+1:=⟨f - 1,by omega⟩;have gf:=fun st=>zj9 (text.drop k) st (by simp;omega);have dj:(text.drop k).length=text.length - k:=by simp
  have hbd:=qn8 (l:=text.drop k);have mf:=fun st=>zd1 (zh (text.drop k)).2.1 st (by omega);rcases qu9 (text.drop k) with h1|h2|h3
  ·rw [h1] at gf
   obtain⟨n',fg,hn0',gq⟩:=qyx h1
   cases dp:decF (zh (text.drop k)).2.1 with
   |none=>
    rw [qyy h1 dp] at hR;rw [dp] at mf;subst hR;obtain⟨rfl,rfl,rfl⟩:=s7 rfl;apply qd [];repeat' (first|apply And.intro|(intro h;try exact cDd)|exact⟨Tryz.call119⟩|refine cpe gf ?_|exact⟨Tryz.call120⟩|refine cpe mf ?_|exact cSd|apply qb []|refine exr ?_|refine qe ?_)
    rw [List.length_map]
    rfl
   |some b=>
    rw [qvb h1 dp fg] at hR;rw [dp] at mf;rw [fg] at gf;apply qd [];repeat' (first|apply And.intro|(intro h;try exact cDd)|exact⟨Tryz.call119⟩|refine cpe gf ?_|exact⟨Tryz.call120⟩|refine cpe mf ?_|(refine Exists.intro (k+n',f,bs++[b],es++[((k+n':Nat):Int)]) ⟨?_,by simp only;omega,?_⟩)|exact cSd|apply qb []|refine exr ?_|refine qe ?_)
    all_goals first|(rw [← hR,Int.natCast_add,List.drop_drop];done)|(simp;done)
  ·rw [h2] at gf
   rw [qvc h2] at hR;subst hR;obtain⟨rfl,rfl,rfl⟩:=hok rfl
   cases dp:decF (zh (text.drop k)).2.1 <;> rw [dp] at mf
   all_goals
    apply qd [];repeat' (first|apply And.intro|(intro h;try exact cDd)|exact⟨Tryz.call119⟩|refine cpe gf ?_|exact⟨Tryz.call120⟩|refine cpe mf ?_|exact cSd|apply qb []|refine exr ?_|refine qe ?_)
  ·rw [h3] at gf
   rw [qyz h3] at hR;subst hR;obtain⟨rfl,rfl,rfl⟩:=s7 rfl
   cases dp:decF (zh (text.drop k)).2.1 <;> rw [dp] at mf
   all_goals
    apply qd [];repeat' (first|apply And.intro|(intro h;try exact cDd)|exact⟨Tryz.call119⟩|refine cpe gf ?_|exact⟨Tryz.call120⟩|refine cpe mf ?_|exact cSd|apply qb []|refine exr ?_|refine qe ?_)
   all_goals
    rw [List.length_map];rfl
theorem q5z (text:qa) (st:List AObj) (hl:text.length<1000000):qo E 22 [Sv text] st fun r st'=>r=qos (jq text)∧st'=st:=by
 refine zg [.s text] (q4h _) Tryz.func22 rfl rfl (fun _=>rfl) rfl fun S0=>?_;by_cases l8:120000<text.length
 ·have e:jq text=(.num 1,qaj):=if_pos l8
  rw [e];apply qd [];repeat' (first|apply And.intro|(intro h;try exact cDd)|exact cSd|apply qb []|refine exr ?_|refine qe ?_)
 have g9:=qfa text
 have t7:(wl text).2.length≤text.length:=by
  conv=>rhs;rw [g9.1]
  simp
 have bn:=qoo (wl text).2;obtain⟨g,rest,d2⟩:∃ g rest,wl text=(g,rest):=⟨_,_,rfl⟩
 have hF:jq text=match z8 (rest.take (je rest.length rest)) with
   | .no=>if (Go.Pl.recsF (text.length+1) (rest.drop (je rest.length rest)) (((text.length - rest.length+je rest.length rest:Nat)):Int) [] []).1=true then (.at' (Go.Pl.recsF (text.length+1) (rest.drop (je rest.length rest)) (((text.length - rest.length+je rest.length rest:Nat)):Int) [] []).2.1.length 10,qaj)
    else (.no,⟨g,rest.take (je rest.length rest),(Go.Pl.recsF (text.length+1) (rest.drop (je rest.length rest)) (((text.length - rest.length+je rest.length rest:Nat)):Int) [] []).2.1,(Go.Pl.recsF (text.length+1) (rest.drop (je rest.length rest)) (((text.length - rest.length+je rest.length rest:Nat)):Int) [] []).2.2.1,(Go.Pl.recsF (text.length+1) (rest.drop (je rest.length rest)) (((text.length - rest.length+je rest.length rest:Nat)):Int) [] []).2.2.2⟩)
   |e=>(e,qaj):=by
  unfold jq;rw [if_neg l8];unfold qes qix atH qdv;rw [d2]
  try rfl
 have rm:∀ st,qo E 29 [Sv text] st fun r st'=>r = .tu [Iv g,Sv rest]∧st'=st:=fun st=>by
  have:=zhn text st hl;rw [d2] at this;exact this
 rw [d2] at t7 bn g9;simp only at t7 bn g9
 have td:rest.drop (je rest.length rest)=text.drop (text.length - rest.length+je rest.length rest):=by
  have h1:text.length=(vl g).length+rest.length:=by
   have:=congrArg List.length g9.1
   simpa using this
  conv=>rhs;rhs;rw [g9.1]
  rw [← List.drop_drop,show text.length - rest.length=(vl g).length by omega,List.drop_left]
 rw [td] at hF;clear td g9 d2;have hbg:=fun st=>zdn rest st (by omega);generalize je rest.length rest=a at hF bn hbg;have s4:=fun st=>qp0 (rest.take a) st (by simp;omega);have hsub:((text.length:Int) - (rest.length:Int))+(a:Int)=((text.length - rest.length+a:Nat):Int):=by omega
 rw [show (((text.length - rest.length+a:Nat)):Int)=(((text.length - rest.length+a:Nat)):Int) from rfl] at hF;obtain⟨R,hR⟩:∃ R,Go.Pl.recsF (text.length+1) (text.drop (text.length - rest.length+a)) ((text.length - rest.length+a:Nat):Int) [] []=R:=⟨_,rfl⟩;rw [hR] at hF;have hok:=fun h=>q02 g (rest.take a) text (text.length - rest.length+a) hl (by omega) (.a (.v .nilIface)) [(0,some (.cells 41 [.i g,.s (rest.take a),.tp 1,.tp 2,.s R.2.2.2])),(1,some (.tip 1 90 (R.2.1.map jo))),(2,some (.tip 1 3 (R.2.2.1.map fun x=>Iv x)))] 3 R hR (fun _=>⟨rfl,rfl,rfl⟩) h;have s7:=fun h=>q02 g (rest.take a) text (text.length - rest.length+a) hl (by omega) (.a (errA (.at' R.2.1.length 10))) [] 1 R hR h (fun _=>⟨rfl,rfl,rfl⟩);generalize itsE (rest.take a)=its at s4
 cases bj:z8 (rest.take a) with
 |no=>
  rw [bj] at hF s4;simp only at hF;by_cases rt:R.1=true
  ·rw [if_pos rt] at hF
   rw [hF];apply qd [];repeat' (first|apply And.intro|(intro h;try exact cDd)|exact⟨Tryz.call29⟩|refine cpe rm ?_|exact⟨Tryz.call65⟩|refine cpe hbg ?_|exact⟨Tryz.call23⟩|refine cpe s4 ?_|exact⟨Tryz.call66⟩|(refine j6 (s7 fun h=>by rw [rt] at h;simp at h) ?_)|exact cSd|apply qb []|refine exr ?_|refine qe ?_)
   all_goals exact congrArg Iv hsub
  ·rw [if_neg rt] at hF
   rw [hF];apply qd [];repeat' (first|apply And.intro|(intro h;try exact cDd)|exact⟨Tryz.call29⟩|refine cpe rm ?_|exact⟨Tryz.call65⟩|refine cpe hbg ?_|exact⟨Tryz.call23⟩|refine cpe s4 ?_|exact⟨Tryz.call66⟩|(refine j6 (hok fun h=>absurd h rt) ?_)|exact cSd|apply qb []|refine exr ?_|refine qe ?_)
   all_goals exact congrArg Iv hsub
 |num n=>
  rw [bj] at hF s4;have hF2:jq text=(.num n,qaj):=hF;rw [hF2];apply qd []
  repeat' (first|apply And.intro|(intro h;try exact cDd)|exact⟨Tryz.call29⟩|refine cpe rm ?_|exact⟨Tryz.call65⟩|refine cpe hbg ?_|exact⟨Tryz.call23⟩|refine cpe s4 ?_|exact cSd|apply qb []|refine exr ?_|refine qe ?_)
 |at' p n=>
  rw [bj] at hF s4;have hF2:jq text=(.at' p n,qaj):=hF;rw [hF2];apply qd [];repeat' (first|apply And.intro|(intro h;try exact cDd)|exact⟨Tryz.call29⟩|refine cpe rm ?_|exact⟨Tryz.call65⟩|refine cpe hbg ?_|exact⟨Tryz.call23⟩|refine cpe s4 ?_|exact cSd|apply qb []|refine exr ?_|refine qe ?_)
theorem zeg (n:Int):(vl n).length≤100:=by
 unfold vl;split
 ·rename_i h
  have:=qpd h;omega
 ·simp
theorem zdt (b:vz) (st:List AObj) (hb:b.base.length<1000000) (he:b.ends.length<1000000):qo E 101 [qbx b] st fun r st'=>r=Iv (qcc b)∧st'=st:=by
 have hh:=zeg b.gen;have b0:=fun st=>zjo b.gen st;refine zg [.a (qbx b)] (qq _) Tryz.func101 rfl rfl (fun _=>rfl) rfl fun S0=>?_;by_cases h0:b.ends=[]
 ·have e:qcc b=((vl b.gen).length:Int)+(b.base.length:Int):=by simp [qcc,h0]
  rw [e];have ml:(b.ends.map fun x=>Iv x).length=0:=by simp [h0]
  apply qd [];repeat' (first|apply And.intro|(intro h;try exact cDd)|exact⟨Tryz.call166⟩|refine cpe b0 ?_|exact cSd|apply qb []|refine exr ?_|refine qe ?_)
 ·obtain⟨x,hx⟩:∃ x,b.ends.getLast? = some x:=by
   cases h:b.ends.getLast? with
   |none=>exact absurd (List.getLast?_eq_none_iff.1 h) h0
   |some x=>exact⟨x,rfl⟩
  have e:qcc b=x:=by simp [qcc,hx]
  rw [e];have ml:0<b.ends.length:=List.length_pos_iff.2 h0;have e8:(b.ends.map fun x=>Iv x).length=b.ends.length:=by simp
  have hg:(b.ends.map fun x=>Iv x)[b.ends.length - 1]? = some (Iv x):=by
   rw [List.getLast?_eq_getElem?] at hx;simp [hx]
  apply qd [];repeat' (first|apply And.intro|(intro h;try exact cDd)|exact⟨Tryz.call166⟩|refine cpe b0 ?_|(refine Exists.intro (b.ends.length - 1) ⟨by omega,_,hg,?_⟩)|exact cSd|apply qb []|refine exr ?_|refine qe ?_)
theorem zdq (gen:Int) (text:qa) (st:List AObj) (hl:text.length<1000000):qo E 56 [Iv gen,Sv text] st fun r st'=>r = .tu [Sv (qia gen text).2,errA (qia gen text).1]∧st'=st:=by
 refine zg [.i gen,.s text] (jg (qq _) (km _)) Tryz.func56 rfl rfl (fun _=>rfl) rfl fun S0=>?_;have s4:=fun st=>qp0 text st hl;unfold qia;by_cases hg:gen≠0∧¬ ke gen
 ·rw [if_pos hg]
  have hpu:=fun st=>zhm gen text st hg.1 hg.2;apply qd [];repeat' (first|apply And.intro|(intro h;try exact cDd)|exact⟨Tryz.call110⟩|refine cpe hpu ?_|exact cSd|apply qb []|refine exr ?_|refine qe ?_)
 ·rw [if_neg hg]
  have hpu:=fun st=>zjp gen text st (Classical.byContradiction fun h=>hg ⟨fun h0=>h (.inl h0),fun h1=>h (.inr h1)⟩) hl
  cases bj:z8 text with
  |no=>
   rw [bj] at s4;apply qd []
   repeat' (first|apply And.intro|(intro h;try exact cDd)|exact⟨Tryz.call110⟩|refine cpe hpu ?_|exact⟨Tryz.call23⟩|refine cpe s4 ?_|exact cSd|apply qb []|refine exr ?_|refine qe ?_)
  |num n=>
   rw [bj] at s4;apply qd []
   repeat' (first|apply And.intro|(intro h;try exact cDd)|exact⟨Tryz.call110⟩|refine cpe hpu ?_|exact⟨Tryz.call23⟩|refine cpe s4 ?_|exact cSd|apply qb []|refine exr ?_|refine qe ?_)
  |at' p n=>
   rw [bj] at s4;apply qd [];repeat' (first|apply And.intro|(intro h;try exact cDd)|exact⟨Tryz.call110⟩|refine cpe hpu ?_|exact⟨Tryz.call23⟩|refine cpe s4 ?_|exact cSd|apply qb []|refine exr ?_|refine qe ?_)
theorem qy0:∀ r:List (List qr),r.length≤(yh r).length
 | []=>by simp [yh]
 |b::r=>by
  have:=qy0 r;have h1:=q21 b;rw [qet];simp;omega
structure zkl (text:qa) (b:vz):Prop where
 base:b.base.length<1000000
 tail:b.tail.length<1000000
 ends : b.ends.length < 1000000
 whole:qcc b=((qac b).length:Int)
 wlen:(qac b).length≤text.length
 size:qcc b+b.tail.length=text.length
theorem q4i {text:qa} {b:vz} (h:qbk text b):zkl text b:=by
 have h1:=congrArg List.length h.split;have h2:=h.len;have h3:=qy0 b.batches;have h4:=h.whole;simp only [List.length_append,qac] at h1;refine⟨by omega,by omega,by rw [h.ends,qoy];omega,h4,by simp only [qac,List.length_append];omega,?_⟩;rw [h4];simp only [qac,List.length_append];omega
theorem zja (text:qa) (x:List qr) (st:List AObj) (hl:text.length<1000000) (hB:∀ y∈x,EdB y) (hx:x.length<1000000):qo E 53 [Sv text,jo x] st fun r st'=>r = .tu [Sv (Go.Pl.appF text x).2,errA (Go.Pl.appF text x).1]∧st'=st:=by
 refine zg [.s text,.a (jo x)] (jg (qq _) (km _)) Tryz.func53 rfl rfl (fun _=>rfl) rfl fun S0=>?_;have m9:=fun st=>q5z text st hl;unfold Go.Pl.appF;have lz:jq text=((jq text).1,(jq text).2):=rfl
 cases dw:(jq text).1 with
 |no=>
  rw [dw] at lz;have hT:=qjs lz;have hS:=q4i hT;obtain⟨hs1,rk,hs3,hs4,hs5,hs6⟩:=hS;rw [lz] at m9;generalize (jq text).2=b at m9 hT hs1 rk hs3 hs4 hs5 hs6;unfold qos at m9;have hwh:=fun st=>zdt b st hs1 hs3;rw [hs4] at hwh;simp only [hs4,Int.toNat_natCast];have mz:=hT.len
  cases hee:eErr x with
  |no=>
   have p4:=fun st=>qya x st hB hee;by_cases h5:50000<(encF x).length
   ·simp only [if_pos h5]
    apply qd [];repeat' (first|apply And.intro|(intro h;try exact cDd)|exact⟨Tryz.call22⟩|refine cpe m9 ?_|exact⟨Tryz.call103⟩|refine cpe p4 ?_|exact cSd|apply qb []|refine exr ?_|refine qe ?_)
   ·simp only [if_neg h5]
    have hgx:qir x:=⟨hee,hB,by omega⟩;have hrc:=fun st=>zb0 (encF x) st (by omega) hgx.good;have t7:=q8x hgx.good;have rj:recF (encF x)=recE x:=rfl;rw [rj] at hrc t7;by_cases h12:(120000:Int)<((qac b).length:Int)+((recE x).length:Int)
    ·rw [if_pos h12]
     apply qd [];repeat' (first|apply And.intro|(intro h;try exact cDd)|exact⟨Tryz.call22⟩|refine cpe m9 ?_|exact⟨Tryz.call103⟩|refine cpe p4 ?_|exact⟨Tryz.call104⟩|refine cpe hrc ?_|exact⟨Tryz.call101⟩|refine cpe hwh ?_|exact cSd|apply qb []|refine exr ?_|refine qe ?_)
    ·rw [if_neg h12]
     apply qd []
     repeat' (first|apply And.intro|(intro h;try exact cDd)|exact⟨Tryz.call22⟩|refine cpe m9 ?_|exact⟨Tryz.call103⟩|refine cpe p4 ?_|exact⟨Tryz.call104⟩|refine cpe hrc ?_|exact⟨Tryz.call101⟩|refine cpe hwh ?_|exact cSd|apply qb []|refine exr ?_|refine qe ?_)
  |num n=>
   have p4:=fun st=>qky x st _ hB (by omega) hee (fun h=>by have:=(qdz x).1 (by rw [hee];exact h);rw [hee] at this;simp at this);apply qd []
   repeat' (first|apply And.intro|(intro h;try exact cDd)|exact⟨Tryz.call22⟩|refine cpe m9 ?_|exact⟨Tryz.call103⟩|refine cpe p4 ?_|exact cSd|apply qb []|refine exr ?_|refine qe ?_)
  |at' p n=>
   have p4:=fun st=>qky x st _ hB (by omega) hee (fun h=>by have:=(qdz x).1 (by rw [hee];exact h);rw [hee] at this;simp at this);apply qd []
   repeat' (first|apply And.intro|(intro h;try exact cDd)|exact⟨Tryz.call22⟩|refine cpe m9 ?_|exact⟨Tryz.call103⟩|refine cpe p4 ?_|exact cSd|apply qb []|refine exr ?_|refine qe ?_)
 |num n=>
  rw [dw] at lz;rw [lz] at m9;unfold qos at m9;apply qd []
  repeat' (first|apply And.intro|(intro h;try exact cDd)|exact⟨Tryz.call22⟩|refine cpe m9 ?_|exact cSd|apply qb []|refine exr ?_|refine qe ?_)
 |at' p n=>
  rw [dw] at lz;rw [lz] at m9;unfold qos at m9;apply qd [];repeat' (first|apply And.intro|(intro h;try exact cDd)|exact⟨Tryz.call22⟩|refine cpe m9 ?_|exact cSd|apply qb []|refine exr ?_|refine qe ?_)
def cutL:List LnV→Int→Int
 | [],d=>d
 |x::r,d=>if begF x.text=true then (x.at':Int) else cutL r d
theorem q53:∀ (n:Nat) (l:qa) (k a N:Nat),l.length≤n→(l=[]∨a+l.length=N)→cutL (vk k a l) N=((je N l:Nat):Int)
 |n,l,k,a,N,hn,ha=>by
  by_cases h:l=[]
  ·subst h
   rw [qau,qiy]
   try rfl
  ·have b4:=xq (c:=10) h
   have b0:a+l.length=N:=ha.resolve_left h
   cases n with
   |zero=>omega
   |succ n=>
    rw [qay h,cutL];by_cases hb:begF (upto 10 l)=true
    ·rw [if_pos hb,qmr h hb]
     simp only;omega
    ·rw [if_neg hb,qoq h hb]
     refine q53 n (past 10 l) (k+1) _ N (by omega) ?_;by_cases b9:10∈l
     ·right
      have e:=congrArg List.length (wg b9);simp only [List.length_append,List.length_cons,List.length_nil] at e;omega
     ·left
      unfold past;rw [xg b9];exact List.drop_eq_nil_of_le (by omega)
theorem q3h (text:qa):∃ its,qb7 text = .tu [j5 its,Iv (z8 text).pos,Iv (z8 text).code]:=by
 unfold qb7 z8;split
 ·exact⟨[],rfl⟩
 ·rcases (ja text).1 with _ | ⟨a,n⟩
  ·exact⟨_,rfl⟩
  ·exact⟨[],rfl⟩
def qcj (x:ErrV×vz):AV:=.tu [qbx x.2,Iv x.1.pos,Iv x.1.code]
theorem qzr (x:ErrV×vz):Pure (qcj x):=yy (qgm _) (qq _) (qq _)
theorem qno:∀ (r:List (qa×Bool)) (i:Nat) (prev:Bool) (now:ze) (rec:Int) (out:List ze) (e:Int×Int),(refL i r prev now rec out).1=some e→e.2≠0
 | [],i,prev,now,rec,out,e,h=>by simp [refL] at h
 |(t,b)::r,i,prev,now,rec,out,e,h=>by
  rw [refL] at h;split at h
  ·rename_i hw
   simp only [Option.some.injEq] at h;subst h;exact hw
  ·split at h
   ·exact qno r _ _ _ _ _ e h
   ·split at h
    ·exact qno r _ _ _ _ _ e h
    ·exact qno r _ _ _ _ _ e h
theorem qnf {text:qa} {n:Int} (h:z8 text = .num n):n=1:=by
 unfold z8 at h;split at h
 ·simpa using h.symm
 ·split at h <;> simp at h
theorem qpq {text:qa} {a n:Int} (h:z8 text = .at' a n):n≠0:=by
 unfold z8 at h;split at h
 ·simp at h
 ·split at h
  ·simp at h
  ·rename_i a' n' hp
   simp only [ErrV.at'.injEq] at h;rw [← h.2];have:=qdp text;exact qno _ _ _ _ _ _ (a',n') (by rw [this];exact hp)
theorem qpw (text:qa) (hl:text.length<1000000):∃ its p n,(∀ st,qo E 78 [Sv text] st fun r st'=>r = .tu [j5 its,Iv p,Iv n]∧st'=st)∧p=(z8 text).pos∧n=(z8 text).code∧(n=0↔z8 text = .no):=by
 obtain⟨its,hits⟩:=q3h text;refine⟨its,_,_,fun st=>by rw [← hits];exact qpv text st hl,rfl,rfl,?_⟩
 cases bj:z8 text with
 |no=>simp [ErrV.code]
 |num n=>have:=qnf bj;simp [ErrV.code];omega
 |at' a n=>have:=qpq bj;simp [ErrV.code];omega
theorem zat (gen:Int) (text:qa):qia gen text=if gen≠0∧¬ ke gen then (.num 1,[]) else if z8 text = .no then (.no,vl gen++text) else (z8 text,[]):=by
 unfold qia;split
 ·rfl
 ·cases z8 text <;> simp
theorem q3b (x:Option (List qr)):∃ b o,qct x = .tu [jo b,Bv o]:=by
 cases x with
 |none=>exact⟨[],false,rfl⟩
 |some b=>exact⟨b,true,rfl⟩
set_option maxHeartbeats 1000000 in
theorem q5f (text:qa) (st:List AObj) (hl:text.length<1000000):qo E 105 [Sv text] st fun r st'=>r=qcj (jq text)∧st'=st:=by
 refine zg [.s text] (qzr _) Tryz.func105 rfl rfl (fun _=>rfl) rfl fun S0=>?_;by_cases l8:120000<text.length
 ·have e:jq text=(.num 1,qaj):=if_pos l8
  rw [e];apply qd [];repeat' (first|apply And.intro|(intro h;try exact cDd)|exact cSd|apply qb []|refine exr ?_|refine qe ?_)
 have g9:=qfa text
 have t7:(wl text).2.length≤text.length:=by
  conv=>rhs;rw [g9.1]
  simp
 have bn:=qoo (wl text).2;obtain⟨g,rest,d2⟩:∃ g rest,wl text=(g,rest):=⟨_,_,rfl⟩
 have hF:jq text=match z8 (rest.take (je rest.length rest)) with
   | .no=>if (Go.Pl.recsF (text.length+1) (rest.drop (je rest.length rest)) (((text.length - rest.length+je rest.length rest:Nat)):Int) [] []).1=true then (.at' (Go.Pl.recsF (text.length+1) (rest.drop (je rest.length rest)) (((text.length - rest.length+je rest.length rest:Nat)):Int) [] []).2.1.length 10,qaj)
    else (.no,⟨g,rest.take (je rest.length rest),(Go.Pl.recsF (text.length+1) (rest.drop (je rest.length rest)) (((text.length - rest.length+je rest.length rest:Nat)):Int) [] []).2.1,(Go.Pl.recsF (text.length+1) (rest.drop (je rest.length rest)) (((text.length - rest.length+je rest.length rest:Nat)):Int) [] []).2.2.1,(Go.Pl.recsF (text.length+1) (rest.drop (je rest.length rest)) (((text.length - rest.length+je rest.length rest:Nat)):Int) [] []).2.2.2⟩)
   |e=>(e,qaj):=by
  unfold jq;rw [if_neg l8];unfold qes qix atH qdv;rw [d2]
  try rfl
 have rm:∀ st,qo E 177 [Sv text] st fun r st'=>r = .tu [Iv g,Sv rest]∧st'=st:=fun st=>by
  have:=q5h text st hl;rw [d2] at this;exact this
 rw [d2] at t7 bn g9;simp only at t7 bn g9
 have td:rest.drop (je rest.length rest)=text.drop (text.length - rest.length+je rest.length rest):=by
  have h1:text.length=(vl g).length+rest.length:=by
   have:=congrArg List.length g9.1
   simpa using this
  conv=>rhs;rhs;rw [g9.1]
  rw [← List.drop_drop,show text.length - rest.length=(vl g).length by omega,List.drop_left]
 rw [td] at hF;clear td g9 d2;have hspl:=fun st=>qjb rest st (by omega);have sw:cutL (lns rest) rest.length=((je rest.length rest:Nat):Int):=q53 _ rest 0 0 rest.length (Nat.le_refl _) (.inr (by omega));have hLl:(lns rest).length≤rest.length:=qcz _ rest 0 0 (Nat.le_refl _);have hLv:∀ x∈lns rest,x.text.length≤rest.length:=fun x hx=>qus _ rest 0 0 (Nat.le_refl _) x hx;generalize lns rest=L at hspl sw hLl hLv;generalize je rest.length rest=a at hF bn sw;have e8:(L.map lnA).length=L.length:=by simp
 apply qd [];repeat' (first|apply And.intro|(intro h;try exact cDd)|exact⟨Tryz.call177⟩|refine cpe rm ?_|exact⟨Tryz.call137⟩|refine cpe hspl ?_|exact cSd|apply qb []|refine exr ?_|refine qe ?_)
 refine zw (X:=Nat) (fun k=>⟨[(0,.s text),(2,.bx 0 0),(5,.i g),(6,.s rest),(7,.a (lnsA L)),(8,.i (cutL (L.drop k) rest.length)),(9,.i ((k:Int) - 1))],[(0,some (.cells 115 [.i 0,.s [],.a zp,.a zp,.s []]))],1⟩) (fun k=>k≤L.length) (fun k=>k) L.length (Nat.le_refl _) ?_ ?_
 ·skip
  repeat' (first|apply And.intro|(intro h;try exact cDd)|exact cSd|apply qb []|refine exr ?_|refine qe ?_)
  all_goals first|(simp [cutL];done)
 ·intro k hk
  cases k with
  |succ j=>
   obtain⟨x,hx⟩:∃ x,L[j]? = some x:=⟨_,List.getElem?_eq_getElem (by omega)⟩;have hgx:=qjl hx;have hxv:=hLv x (List.mem_of_getElem? hx);have dw:=fun st=>q28 x.text st (by omega)
   have hdj:L.drop j=x::L.drop (j+1):=by
    obtain⟨b4,e⟩:=List.getElem?_eq_some_iff.1 hx;rw [List.drop_eq_getElem_cons b4,e]
   apply qd [];repeat' (first|apply And.intro|(intro h;try exact cDd)|exact⟨Tryz.call178⟩|refine cpe dw ?_|(refine Exists.intro (j) ⟨by omega,_,hgx,?_⟩)|(refine Exists.intro j ⟨by omega,by omega,?_⟩)|exact cSd|apply qb []|refine exr ?_|refine qe ?_)
   all_goals first|(simp [hdj,cutL,begF, *];done)
  |zero=>
   have hc0:cutL (L.drop 0) rest.length=(a:Int):=by rw [List.drop_zero];exact sw
   simp only [hc0];obtain⟨its,p,n,s4,hp,hn,bz⟩:=qpw (rest.take a) (by simp;omega);have hsub:((text.length:Int) - (rest.length:Int))+(a:Int)=((text.length - rest.length+a:Nat):Int):=by omega
   by_cases hz:n=0
   ·rw [bz.1 hz] at hF
    simp only at hF;apply qd [];repeat' (first|apply And.intro|(intro h;try exact cDd)|exact⟨Tryz.call78⟩|refine cpe s4 ?_|exact cSd|apply qb []|refine exr ?_|refine qe ?_)
    refine zw (X:=Nat×Nat×List (List qr)×List Int) (fun (k,f,bs,es)=>⟨[(0,.s text),(2,.bx 0 0),(10,.bx 1 0),(14,.i k)],
      [(0,some (.cells 115 [.i 0,.s [],.a zp,.a zp,.s []])),(1,some (.cells 115 [.i g,.s (rest.take a),.tp 2,.tp 3,.s []])),(2,some (.tip 1 90 (bs.map jo))),(3,some (.tip 1 3 (es.map fun x=>Iv x)))],4⟩)
     (fun (k,f,bs,es)=>k≤text.length∧text.length - k<f∧Go.Pl.recsF f (text.drop k) k bs es=Go.Pl.recsF (text.length+1) (text.drop (text.length - rest.length+a)) ((text.length - rest.length+a:Nat):Int) [] []∧bs.length≤k∧es.length≤k) (fun x=>text.length - x.1) (text.length - rest.length+a,text.length+1,[],[])
     ⟨by omega,by omega,rfl,by simp,by simp⟩ ?_ ?_
    ·skip
     repeat' (first|apply And.intro|(intro h;try exact cDd)|exact cSd|apply qb []|refine exr ?_|refine qe ?_)
     all_goals first|(simp [hsub];done)
    ·rintro⟨k,f,bs,es⟩ ⟨hk,hf,hR,hbl2,gb⟩
     generalize Go.Pl.recsF (text.length+1) (text.drop (text.length - rest.length+a)) ((text.length - rest.length+a:Nat):Int) [] []=R at hF hR;obtain⟨f,rfl⟩:∃ f',f=f'+1:=⟨f - 1,by omega⟩;have gf:=fun st=>zb9 (text.drop k) st (by simp;omega);have dj:(text.drop k).length=text.length - k:=by simp
     have hbd:=qn8 (l:=text.drop k);have mf:=fun st=>q48 (zh (text.drop k)).2.1 st (by omega);rcases qu9 (text.drop k) with h1|h2|h3
     ·rw [h1] at gf
      obtain⟨n',fg,hn0',gq⟩:=qyx h1
      cases dp:decF (zh (text.drop k)).2.1 with
      |none=>
       rw [qyy h1 dp] at hR;rw [dp] at mf;rw [← hR] at hF;rw [hF];apply qd [];repeat' (first|apply And.intro|(intro h;try exact cDd)|exact⟨Tryz.call179⟩|refine cpe gf ?_|exact⟨Tryz.call180⟩|refine cpe mf ?_|exact cSd|apply qb []|refine exr ?_|refine qe ?_)
       all_goals first|(simp [qcj,qaj,ErrV.pos,ErrV.code];done)|(rw [← hR,List.drop_drop,Int.natCast_add];done)|(rw [← hR,List.drop_drop,Int.natCast_add];rfl)
      |some b=>
       rw [qvb h1 dp fg] at hR;rw [dp] at mf;rw [fg] at gf;apply qd [];repeat' (first|apply And.intro|(intro h;try exact cDd)|exact⟨Tryz.call179⟩|refine cpe gf ?_|exact⟨Tryz.call180⟩|refine cpe mf ?_|(refine Exists.intro (k+n',f,bs++[b],es++[((k+n':Nat):Int)]) ⟨?_,by simp only;omega,?_⟩)|exact cSd|apply qb []|refine exr ?_|refine qe ?_)
       all_goals first|(simp [qcj,qaj,ErrV.pos,ErrV.code];done)|(rw [← hR,List.drop_drop,Int.natCast_add];done)|(rw [← hR,List.drop_drop,Int.natCast_add];rfl)
     ·rw [h2] at gf
      rw [qvc h2] at hR;rw [← hR] at hF;rw [hF];apply qd [];repeat' (first|apply And.intro|(intro h;try exact cDd)|exact⟨Tryz.call179⟩|refine cpe gf ?_|exact⟨Tryz.call180⟩|refine cpe mf ?_|exact cSd|apply qb []|refine exr ?_|refine qe ?_)
      all_goals first|(simp [qcj,qaj,ErrV.pos,ErrV.code];done)|(rw [← hR,List.drop_drop,Int.natCast_add];done)|(rw [← hR,List.drop_drop,Int.natCast_add];rfl)
     ·rw [h3] at gf
      rw [qyz h3] at hR;rw [← hR] at hF;rw [hF];obtain⟨b',o',hbo⟩:=q3b (decF (zh (text.drop k)).2.1);rw [hbo] at mf;apply qd [];repeat' (first|apply And.intro|(intro h;try exact cDd)|exact⟨Tryz.call179⟩|refine cpe gf ?_|exact⟨Tryz.call180⟩|refine cpe mf ?_|exact cSd|apply qb []|refine exr ?_|refine qe ?_)
      all_goals first|(simp [qcj,qaj,ErrV.pos,ErrV.code];done)|(rw [← hR,List.drop_drop,Int.natCast_add];done)|(rw [← hR,List.drop_drop,Int.natCast_add];rfl)
   ·have e:jq text=(z8 (rest.take a),qaj):=by
     rw [hF]
     cases bj:z8 (rest.take a) with
     |no=>exact absurd (bz.2 bj) hz
     | _=>rfl
    rw [e];unfold qcj;simp only;rw [← hp,← hn];apply qd [];repeat' (first|apply And.intro|(intro h;try exact cDd)|exact⟨Tryz.call78⟩|refine cpe s4 ?_|exact cSd|apply qb []|refine exr ?_|refine qe ?_)
    all_goals first|(simp [qcj,qaj,ErrV.pos,ErrV.code];done)|(rw [← hR,List.drop_drop,Int.natCast_add];done)|(rw [← hR,List.drop_drop,Int.natCast_add];rfl)
theorem qtp {text:qa} (h:(jq text).1≠.no):(jq text).1.code≠0:=by
 unfold jq at h ⊢;split
 ·simp [ErrV.code]
 ·rename_i hb
  rw [if_neg hb] at h
  cases bj:z8 (qix text) with
  |no=>
   rw [bj] at h;simp only at h ⊢;split
   ·simp [ErrV.code]
   ·rename_i hr
    rw [if_neg hr] at h
    exact absurd rfl h
  |num n=>have:=qnf bj;simp [ErrV.code];omega
  |at' a n=>have:=qpq bj;simpa [ErrV.code] using this
theorem zhh (x:List qr):∃ p n,(eErr x).pos=p∧(eErr x).code=n∧(n=0↔eErr x = .no):=⟨_,_,rfl,rfl,qdz x⟩
theorem zjs (a b:List Int) (st:List AObj) (ha:a.length<1000000):qo E 20 [yf a,yf b] st fun r st'=>r=Bv (decide (a=b))∧st'=st:=by
 refine zg [.a (yf a),.a (yf b)] (qq _) Tryz.func20 rfl rfl (fun _=>rfl) rfl fun S0=>?_;have hma:(a.map fun x=>Iv x).length=a.length:=by simp
 have hmb:(b.map fun x=>Iv x).length=b.length:=by simp
 by_cases hl:a.length=b.length
 ·apply qd []
  repeat' (first|apply And.intro|(intro h;try exact cDd)|exact cSd|apply qb []|refine exr ?_|refine qe ?_)
  refine zw (X:=Nat) (fun k=>⟨[(0,.a (yf a)),(1,.a (yf b)),(12,.i a.length),(13,.i k)],[],0⟩) (fun k=>k≤a.length∧a.take k=b.take k) (fun k=>a.length - k) 0 ⟨by omega,by simp⟩ ?_ ?_
  ·skip
   repeat' (first|apply And.intro|(intro h;try exact cDd)|exact cSd|apply qb []|refine exr ?_|refine qe ?_)
   all_goals first|(simp;done)
  ·rintro k ⟨hk,ht⟩
   by_cases hc:k<a.length
   ·have hga:(a.map fun x=>Iv x)[k]? = some (Iv a[k]):=by simp [hc]
    have hgb:(b.map fun x=>Iv x)[k]? = some (Iv (b[k]'(by omega))):=by simp [show k<b.length by omega]
    apply qd [];repeat' (first|apply And.intro|(intro h;try exact cDd)|(refine Exists.intro (k) ⟨by omega,_,hga,?_⟩)|(refine Exists.intro (k) ⟨by omega,_,hgb,?_⟩)|(refine Exists.intro (k+1) ⟨⟨by omega,?_⟩,by omega,?_⟩)|exact cSd|apply qb []|refine exr ?_|refine qe ?_)
    ·have hab:a≠b:=fun e=>by subst e;simp at *
     simp [hab]
    ·refine qa8 (d:=0) hl hc ht ?_
     simp [List.getD,hc,show k<b.length by omega]
     try omega
   ·apply qd []
    repeat' (first|apply And.intro|(intro h;try exact cDd)|exact cSd|apply qb []|refine exr ?_|refine qe ?_)
    have hab:a=b:=by
     rw [List.take_of_length_le (by omega),List.take_of_length_le (by omega)] at ht;exact ht
    simp [hab]
 ·apply qd []
  repeat' (first|apply And.intro|(intro h;try exact cDd)|exact cSd|apply qb []|refine exr ?_|refine qe ?_)
  all_goals
   have hab:a≠b:=fun e=>hl (by rw [e]);simp [hab]
end Go.Proofs.YtneejjefekdgjaaGreatDoor
namespace Go.Pl
open Go Go.Proofs
structure EntV where
 x:ze
 id:Int
structure qz where
 ents:List EntV
 next:Int
 many:Int
def xl (l:qz) (x:ze):qz:=if x.kind=3 then⟨l.ents++[⟨x,l.next⟩],l.next+1,l.many+1⟩ else⟨l.ents++[⟨x,0⟩],l.next,l.many⟩
def ofF (its:List ze):qz:=its.foldl xl ⟨[],1,0⟩
end Go.Pl
namespace Go.Proofs.YtneejjefekdgjaaGreatDoor
open Go Go.Av Go.RowKit Go.Proofs Go.Pl
@[reducible] def entA (e : EntV) : AV := .ag [Iv e.x.kind, Sv e.x.raw, jr e.x.fields, Iv e.id]
@[reducible] def vm (l : qz) : AV := .pp [.sl 4 (l.ents.map entA) none, Iv l.next, Iv l.many]
def qur (e:ErrV) (l:qz):AV:=match e with
 | .no=>.tu [vm l,errA .no]
 |e=>.tu [.v (.pointer none),errA e]
theorem qt8 (e:EntV):qmj (entA e):=fun y hy=>by
 simp only [AV.cells,List.mem_cons,List.not_mem_nil,or_false] at hy;rcases hy with rfl|rfl|rfl|rfl
 ·exact qq _
 ·exact qq _
 ·exact qb2 _
 ·exact qq _
theorem qi7 (l:qz):Pure (vm l):=qwu fun x hx=>by
 simp only [List.mem_cons,List.not_mem_nil,or_false] at hx;rcases hx with rfl|rfl|rfl
 ·exact qbq fun x hx=>by
   obtain⟨f,_,rfl⟩:=List.mem_map.1 hx;exact qt8 f
 ·exact qq _
 ·exact qq _
theorem qls (e:ErrV) (l:qz):Pure (qur e l):=by
 cases e with
 |no=>exact jg (qi7 l) (km _)
 |num n=>exact jg (qq _) (km _)
 |at' a n=>exact jg (qq _) (km _)
theorem qjd:∀ (n:Nat) (rest:qa) (k:Nat) (p:PSt),rest.length≤n→PB (4 * k) p→k+rest.length≤60000→(runL k (zn rest) p).2.items.length≤300000:=by
 have nil:∀ (k:Nat) (p:PSt),PB (4 * k) p→k≤60000→(runL k (zn []) p).2.items.length≤300000:=fun k p hB hk=>by
  have e:ju p 0 [] true 1=endP p:=rfl;have h:=qkk (no:=0) (text:=[]) (ended:=true) (kind:=1) hB (by omega) (by simp);rw [e] at h;have e2:runL k (zn []) p=endP p:=by rw [vi];rfl
  rw [e2];have:=h.items;omega
 intro n
 induction n with
 |zero=>
  intro rest k p hr hB hk;obtain rfl:rest=[]:=List.eq_nil_of_length_eq_zero (by omega)
  exact nil k p hB (by simpa using hk)
 |succ n ih=>
  intro rest k p hr hB hk;by_cases a6:rest=[]
  ·subst a6
   exact nil k p hB (by simpa using hk)
  ·have hu:=kz 10 rest
   have bd:=va 10 rest;have sc:0<rest.length:=List.length_pos_iff.2 a6;rw [wq a6];simp only [runL];have dn:=qs2 (no:=k) (text:=upto 10 rest) (ended:=decide (10∈rest)) hB (by omega) (by omega);split
   ·have:=hB.items
    simp only;omega
   ·exact ih (past 10 rest) (k+1) _ (by omega) dn (by omega)
theorem qso (text:qa):(itsE text).length≤300000:=by
 unfold itsE;split
 ·simp
 ·have h:=qjd text.length text 0 p0 (Nat.le_refl _) q8r (by omega)
  unfold ja;split
  ·simp
  ·exact h
theorem zep (text:qa) (st:List AObj) (hl:text.length<1000000):qo E 35 [Sv text] st fun r st'=>r=qur (z8 text) (ofF (itsE text))∧st'=st:=by
 refine qnl [.s text] (qls _ _) Tryz.func35 rfl rfl (fun _=>rfl) rfl fun S0=>?_;have hp:=fun st=>qp0 text st hl;have db:=qso text;generalize itsE text=its at hp db
 cases he:z8 text with
 |num n=>
  rw [he] at hp;apply qd [19]
  repeat' (first|apply And.intro|(intro h;try exact cDd)|exact⟨Tryz.call23⟩|refine cpe hp ?_|exact cSd|apply qb [19]|refine exr ?_|refine qe ?_)
 |at' a n=>
  rw [he] at hp;apply qd [19]
  repeat' (first|apply And.intro|(intro h;try exact cDd)|exact⟨Tryz.call23⟩|refine cpe hp ?_|exact cSd|apply qb [19]|refine exr ?_|refine qe ?_)
 |no=>
  rw [he] at hp;apply qd [19];repeat' (first|apply And.intro|(intro h;try exact cDd)|exact⟨Tryz.call23⟩|refine cpe hp ?_|exact cSd|apply qb [19]|refine exr ?_|refine qe ?_)
  refine zw (X:=Nat×qz) (fun (k,l)=>⟨[(6,.bx 0 0),(20,.a (j5 its)),(21,.i its.length),(22,.i k)],[(0,some (.cells 156 [.tp 1,.i l.next,.i l.many])),(1,some (.tip 4 152 (l.ents.map entA)))],2⟩)
   (fun (k,l)=>k≤its.length∧l.ents.length=k∧(1≤l.next∧l.next≤k+1∧0≤l.many∧l.many≤k)∧(its.drop k).foldl xl l=ofF its) (fun (k,l)=>its.length - k) (0,⟨[],1,0⟩) ⟨by omega,rfl,⟨by decide,by decide,by decide,by decide⟩,rfl⟩ ?_ ?_
  ·skip
   repeat' (first|apply And.intro|(intro h;try exact cDd)|exact cSd|apply qb []|refine exr ?_|refine qe ?_)
   all_goals (simp;done)
  ·rintro⟨k,l⟩ ⟨hk,hlk,r7,a4⟩
   by_cases b8:k<its.length
   ·have hx:its[k]? = some its[k]:=List.getElem?_eq_getElem b8
    have c8:(its.map jh)[k]? = some (jh its[k]):=by rw [List.getElem?_map,hx];rfl
    rw [List.drop_eq_getElem_cons b8,List.foldl_cons] at a4;have e8:(l.ents.map entA).length=l.ents.length:=by simp
    generalize its[k]=x at hx c8 a4;by_cases br:x.kind=3
    ·have e:xl l x=⟨l.ents++[⟨x,l.next⟩],l.next+1,l.many+1⟩:=if_pos br
     rw [e] at a4;apply qd [];repeat' (first|apply And.intro|(intro h;try exact cDd)|(refine Exists.intro (k) ⟨by omega,_,c8,?_⟩)|(refine Exists.intro (k+1,⟨l.ents++[⟨x,l.next⟩],l.next+1,l.many+1⟩) ⟨⟨by omega,by simp [hlk],by simp only;omega,a4⟩,by simp only;omega,?_⟩)|exact cSd|apply qb []|refine exr ?_|refine qe ?_)
     all_goals (simp;done)
    ·have e:xl l x=⟨l.ents++[⟨x,0⟩],l.next,l.many⟩:=if_neg br
     rw [e] at a4;apply qd [];repeat' (first|apply And.intro|(intro h;try exact cDd)|(refine Exists.intro (k) ⟨by omega,_,c8,?_⟩)|(refine Exists.intro (k+1,⟨l.ents++[⟨x,0⟩],l.next,l.many⟩) ⟨⟨by omega,by simp [hlk],by simp only;omega,a4⟩,by simp only;omega,?_⟩)|exact cSd|apply qb []|refine exr ?_|refine qe ?_)
     all_goals (simp;done)
   ·have b8:k=its.length:=by omega
    subst b8;rw [List.drop_length] at a4;have e:ofF its=l:=a4.symm;rw [e];apply qd [];repeat' (first|apply And.intro|(intro h;try exact cDd)|exact cSd|apply qb []|refine exr ?_|refine qe ?_)
end Go.Proofs.YtneejjefekdgjaaGreatDoor
namespace Go.Av
open Go Go.RowKit
theorem qlj {E:Env} {rd:Option Nat} {N:Nat} {ops:Array Oper} {K:AS→Prop} {s:AS} {rest:List Oper} {d:Option Tmp} {T:TypeId} {p:String} {af:Array Edge} {x:Operand} {t t' te:TypeId} {sz:Nat} {xs:List AV} {tip:Option Nat} (hx:ql N s x = .sl sz xs tip) (hu:E.P.underlying t=some (.slice te))
  (h1:xs=[]→AOps E rd N ops rest K (s.put d (Bv true))) (h2:AOps E rd N ops rest K (s.put d (Bv false))):AOps E rd N ops (⟨d,.binOp .eql t x (.const (.slice none 0 0)) t',T,p,af,none⟩::rest) K s:=by
 refine za rfl (q8 nofun fun B0 w0 G a w _ hI=>?_);have he:=hI.eval_of hx
 have key:∃ q n c,a.eval x = .slice q n c∧(q.isNone=true→xs=[]):=by
  generalize a.eval x=u at he
  cases he with
  |sl0=>exact⟨_,_,_,rfl,fun _=>rfl⟩
  |sl=>exact⟨_,_,_,rfl,fun h=>by simp at h⟩
 obtain⟨q,n,c,hv,hq0⟩:=key;have hc:a.eval (.const (.slice none 0 0)) = .slice none 0 0:=rfl;have hq:=Lib.run_eql_slice_nil (P:=E.P) w t te q n c 0 0 hu;refine⟨_,w,G,.v (.bool q.isNone),s.st,?_,.refl G,hI.agree,.v _,?_⟩
 ·generalize a.eval = ρ at hv hc
  simp [execOp,hv,hc,eqGuard_at_slice,hq]
 ·cases hb:q.isNone with
  |true=>exact h1 (hq0 hb)
  |false=>exact h2
theorem qdd.len0 {c:AV} (h:qdd c):∀ (G:Gh) (v:Value),Rel G c v→∃ b n cp,v = .slice b n cp∧n≤cp:=fun G v hv=>by
 obtain⟨base,rfl⟩:=h.val G v hv;exact⟨_,_,_,rfl,Nat.le_refl _⟩
end Go.Av
namespace Go.Proofs.YtneejjefekdgjaaGreatDoor
open Go Go.Av Go.RowKit Go.Proofs Go.Pl
theorem qi1 (fs:List Fld) (st:List AObj) (hl:fs.length<1000000):qo E 71 [jr fs] st fun r st'=>r=jr fs∧st'=st:=by
 refine qx (qb2 _) (qp Tryz.func71 rfl (Nat.le_of_ble_eq_true rfl) ?_);have e8:(fs.map fldA).length=fs.length:=by simp
 rw [List.append_nil];repeat' (first|(apply qc3 (st:=st);(iterate 6 exact rfl))|(apply qlj;exact rfl;exact rfl;intro h0)|apply qn|apply qf|apply qh|apply qj|apply qg|(apply qc;exact rfl;apply cd_t;exact cRa)|(apply qc;exact rfl;apply cd_f;exact cRa)|apply qw|apply qt|(apply qjq (b:=st.length) (xs:=[]) (ys:=fs.map fldA) (bytes:=32);(iterate 5 exact rfl);exact⟨⟨_,_,rfl,rfl,rfl,rfl,rfl⟩⟩;(focus (repeat' (first|assumption|exact q3y _ _ _ _|exact q64 _ _ _ _ _ _ _|apply qs5|apply qza|(refine qas (T:=_) (ver:=_) (cs:=_) ?_)|exact x7|exact jy rfl|apply kq|apply vg|omega|apply qcf)));(exact qg9);(first|exact rfl|exact qc2 fun _=>rfl);((simp [maxLen];omega));((simp;omega));intro c' S' t1 g1 g2 g3 g4))
 ·exact qm rfl (xu (q5 rfl) (fun G v h=>by
   rw [jr,h0]
   exact qb9 h)) ⟨rfl,_,(List.append_nil st).symm⟩
 ·exact qm rfl (xu (q5 rfl) (qnp g1)) ⟨rfl,qwo fun j hj=>(g2.same j (by omega) (Nat.lt_of_lt_of_le hj qg9)).trans (List.getElem?_append_left hj)⟩
theorem q7u (es:List EntV) (st:List AObj) (hl:es.length<1000000):qo E 153 [.sl 4 (es.map entA) none] st fun r st'=>OwnR 4 152 (es.map entA) st (.v undef) r st':=by
 refine qp Tryz.func153 rfl (Nat.le_of_ble_eq_true rfl) ?_;have e8:(es.map entA).length=es.length:=by simp
 rw [List.append_nil];by_cases he:es=[]
 ·subst he
  repeat' (first|(apply qc3 (st:=st);(iterate 6 exact rfl))|(apply qlj;exact rfl;exact rfl;intro h0)|(apply qog (c:=.os st.length 0 0 0 0);exact rfl;exact (qpi _ _ _).len0;exact fun _ _ h=>h;exact rfl;exact rfl;exact⟨⟨_,_,rfl,rfl,rfl,rfl,rfl⟩⟩)|apply qn|apply qf|apply qh|apply qj|apply qg|(apply qc;exact rfl;apply cd_t;exact cRa)|(apply qc;exact rfl;apply cd_f;exact cRa)|apply qw|apply qt)
  ·exact qm rfl (q5 rfl) ⟨.inl ⟨rfl,qss none⟩,Nat.le_refl _,fun _ _ _=>rfl,fun o ho=>by
   have ho:(none:Option Nat)=some o:=ho
   simp at ho⟩
  ·exact qm rfl (q5 rfl) ⟨.inl ⟨rfl,qpi _ _ _⟩,qg9,fun j hj _=>List.getElem?_append_left hj,fun o ho=>by
   have ho:(none:Option Nat)=some o:=ho
   simp at ho⟩
 ·have a6:es.map entA≠[]:=by simpa using he
  repeat' (first|(apply qc3 (st:=st);(iterate 6 exact rfl))|(apply qlj;exact rfl;exact rfl;intro h0)|(refine qfj (ys:=es.map entA) (bytes:=56) (qpi _ _ _).val (fun _ _ h=>h) rfl rfl ⟨⟨_,_,rfl,rfl,rfl,rfl,rfl⟩⟩ (qc2 fun _=>rfl) a6 (by simp [maxLen];omega) (by simp;omega) fun cap pad q1 q2 q3 q4=>?_)|apply qn|apply qf|apply qh|apply qj|apply qg|(apply qc;exact rfl;apply cd_t;exact cRa)|(apply qc;exact rfl;apply cd_f;exact cRa)|apply qw|apply qt)
  ·exact absurd h0 a6
  ·refine qm rfl (q5 rfl) ⟨.inr ⟨_,0,cap,pad,rfl,x7,q1,q2,q3,q4⟩,Nat.le_trans qg9 qg9,fun j hj _=>?_,fun o ho=>?_⟩
   ·show ((st++[_])++[_])[j]? = _
    rw [List.getElem?_append_left (by simp;omega),List.getElem?_append_left hj]
   ·have b6:some (st++[AObj.cells 0 152 []]).length=some o:=ho
    simp only [Option.some.injEq] at b6;left;rw [← b6];simp
end Go.Proofs.YtneejjefekdgjaaGreatDoor
namespace Go.Pl
open Go Go.Proofs
def wo (id:Int):Nat→List EntV→Int
 | _,[]=> -1
 |k,e::r=>if e.id=id then (k:Int) else wo id (k+1) r
def atF (l:qz) (id:Int):Int:=if id<1 then -1 else wo id 0 l.ents
theorem qui (id:Int):∀ (es:List EntV) (k:Nat),wo id k es = -1∨∃ i e,wo id k es=((k+i:Nat):Int)∧es[i]? = some e∧e.id=id
 | [],k=>.inl rfl
 |e::r,k=>by
  unfold wo;by_cases h:e.id=id
  ·rw [if_pos h]
   exact .inr ⟨0,e,by simp,rfl,h⟩
  ·rw [if_neg h]
   rcases qui id r (k+1) with g | ⟨i,e',g1,g2,g3⟩
   ·exact .inl g
   ·exact .inr ⟨i+1,e',by rw [g1];congr 1;omega,by simpa using g2,g3⟩
theorem qdx (l:qz) (id:Int):atF l id = -1∨∃ (i:Nat) (e:EntV),atF l id=(i:Int)∧l.ents[i]? = some e∧e.id=id∧1≤id:=by
 unfold atF;by_cases h:id<1
 ·exact .inl (if_pos h)
 ·rw [if_neg h]
  rcases qui id l.ents 0 with g | ⟨i,e,g1,g2,g3⟩
  ·exact .inl g
  ·exact .inr ⟨i,e,by rw [g1];congr 1;omega,g2,g3,by omega⟩
def rawF (l:qz) (id:Int):qa×Bool:=match l.ents[(atF l id).toNat]? with
 |some e=>if atF l id<0 then ([],false) else (e.x.raw,true)
 |none=>([],false)
end Go.Pl
namespace Go.Proofs.YtneejjefekdgjaaGreatDoor
open Go Go.Av Go.RowKit Go.Proofs Go.Pl
theorem zga (e:EntV) (id:Int) (st:List AObj):qo E 136 [entA e,.pp [Iv id]] st fun r st'=>r=Bv (decide (e.id=id))∧st'=st:=by
 refine zg [.a (entA e),.a (.pp [Iv id])] (qq _) Tryz.func136 rfl rfl (fun _=>rfl) rfl fun S0=>?_;apply qd [];repeat' (first|apply And.intro|(intro h;try exact cDd)|exact cSd|apply qb []|refine exr ?_|refine qe ?_)
@[reducible] def atFn (id : Int) : SV := .fn (.func 136) [] [.a (.pp [Iv id])]
theorem zho (es:List EntV) (id:Int) (st:List AObj) (hl:es.length<1000000):qo E 135 [.sl 4 (es.map entA) none,.fn (.func 136) [] [.pp [Iv id]]] st fun r st'=>r=Iv (wo id 0 es)∧st'=st:=by
 refine zg [.a (.sl 4 (es.map entA) none),atFn id] (qq _) Tryz.func135 rfl rfl (fun _=>rfl) rfl fun S0=>?_;apply qd [];repeat' (first|apply And.intro|(intro h;try exact cDd)|exact cSd|apply qb []|refine exr ?_|refine qe ?_)
 refine zw (X:=Nat) (fun k=>⟨[(0,.a (.sl 4 (es.map entA) none)),(1,atFn id),(7,.i es.length),(8,.i k)],[],0⟩) (fun k=>k≤es.length∧wo id k (es.drop k)=wo id 0 es) (fun k=>es.length - k) 0 ⟨by omega,by simp⟩ ?_ ?_
 ·skip
  repeat' (first|apply And.intro|(intro h;try exact cDd)|exact cSd|apply qb []|refine exr ?_|refine qe ?_)
  all_goals (simp;done)
 ·rintro k ⟨hk,a4⟩
  by_cases b8:k<es.length
  ·have hx:es[k]? = some es[k]:=List.getElem?_eq_getElem b8
   have c8:(es.map entA)[k]? = some (entA es[k]):=by rw [List.getElem?_map,hx];rfl
   rw [List.drop_eq_getElem_cons b8,wo] at a4;generalize es[k]=e at hx c8 a4;have h1:=fun st=>zga e id st;by_cases o9:e.id=id
   ·rw [if_pos o9] at a4
    rw [decide_eq_true o9] at h1;rw [← a4];apply qd [];repeat' (first|apply And.intro|(intro h;try exact cDd)|(refine Exists.intro (k) ⟨by omega,_,c8,?_⟩)|exact⟨Tryz.call136⟩|refine cpe h1 ?_|exact cSd|apply qb []|refine exr ?_|refine qe ?_)
   ·rw [if_neg o9] at a4
    rw [decide_eq_false o9] at h1;apply qd [];repeat' (first|apply And.intro|(intro h;try exact cDd)|(refine Exists.intro (k) ⟨by omega,_,c8,?_⟩)|exact⟨Tryz.call136⟩|refine cpe h1 ?_|(refine Exists.intro (k+1) ⟨⟨by omega,a4⟩,by omega,?_⟩)|exact cSd|apply qb []|refine exr ?_|refine qe ?_)
  ·have b8:k=es.length:=by omega
   subst b8;rw [List.drop_length,wo] at a4;rw [← a4];apply qd [];repeat' (first|apply And.intro|(intro h;try exact cDd)|exact cSd|apply qb []|refine exr ?_|refine qe ?_)
theorem at_c (l:qz) (id:Int) (st:List AObj) (hl:l.ents.length<1000000):qo E 77 [vm l,Iv id] st fun r st'=>r=Iv (atF l id)∧st'=st:=by
 refine zg [.a (vm l),.i id] (qq _) Tryz.func77 rfl rfl (fun _=>rfl) rfl fun S0=>?_;unfold atF;have h1:=fun st=>zho l.ents id st hl;by_cases h:id<1
 ·rw [if_pos h]
  apply qd [];repeat' (first|apply And.intro|(intro h;try exact cDd)|exact cSd|apply qb []|refine exr ?_|refine qe ?_)
 ·rw [if_neg h]
  apply qd [];repeat' (first|apply And.intro|(intro h;try exact cDd)|exact⟨Tryz.call135⟩|refine cpe h1 ?_|exact cSd|apply qb []|refine exr ?_|refine qe ?_)
theorem zgi (l:qz) (id:Int) (st:List AObj) (hl:l.ents.length<1000000):qo E 32 [vm l,Iv id] st fun r st'=>r = .tu [Sv (rawF l id).1,Bv (rawF l id).2]∧st'=st:=by
 refine zg [.a (vm l),.i id] (jg (qq _) (qq _)) Tryz.func32 rfl rfl (fun _=>rfl) rfl fun S0=>?_;have h1:=fun st=>at_c l id st hl;unfold rawF;rcases qdx l id with h | ⟨i,e,h,he,o9,pq⟩
 ·rw [h] at h1 ⊢
  have e1:(match l.ents[(-1:Int).toNat]? with|some e=>if (-1:Int)<0 then (([]:qa),false) else (e.x.raw,true)|none=>([],false))=([],false):=by split <;> rfl
  rw [e1];apply qd [];repeat' (first|apply And.intro|(intro h;try exact cDd)|exact⟨Tryz.call77⟩|refine cpe h1 ?_|exact cSd|apply qb []|refine exr ?_|refine qe ?_)
 ·rw [h] at h1 ⊢
  have hm:(l.ents.map entA)[i]? = some (entA e):=by rw [List.getElem?_map,he];rfl
  have e1:(match l.ents[((i:Int)).toNat]? with|some e=>if (i:Int)<0 then (([]:qa),false) else (e.x.raw,true)|none=>([],false))=(e.x.raw,true):=by
   rw [Int.toNat_natCast,he];exact if_neg (by omega)
  rw [e1];apply qd [];repeat' (first|apply And.intro|(intro h;try exact cDd)|(refine Exists.intro (i) ⟨by omega,_,hm,?_⟩)|exact⟨Tryz.call77⟩|refine cpe h1 ?_|exact cSd|apply qb []|refine exr ?_|refine qe ?_)
@[reducible] def lstH (a : Nat) (l : qz) : List (Nat × Option SR) := [(0, some (.cells 156 [.tp a, .i l.next, .i l.many])), (a, some (.own 4 152 (l.ents.map entA)))]
theorem zei (es:List EntV) (id:Int) (hl:es.length<1000000):v4 E 135 [.tp 0,atFn id] 1 (hpF [(0,some (.own 4 152 (es.map entA)))]) ⟨.i (wo id 0 es),wb [(0,some (.own 4 152 (es.map entA)))],[(0,some (.own 4 152 (es.map entA)))]++ww [(0,some (.own 4 152 (es.map entA)))],1⟩:=by
 refine yj [.tp 0,atFn id] [(0,some (.own 4 152 (es.map entA)))] 1 (.i (wo id 0 es)) [(0,some (.own 4 152 (es.map entA)))] 1 Tryz.func135 rfl rfl rfl rfl fun S F ρ=>?_;have e8:(es.map entA).length=es.length:=by simp
 apply qd [];repeat' (first|apply And.intro|(intro h;try exact cDd)|exact cSd|apply qb []|refine exr ?_|refine qe ?_)
 refine zw (X:=Nat) (fun k=>⟨[(0,.tp 0),(1,atFn id),(7,.i es.length),(8,.i k)],[(0,some (.own 4 152 (es.map entA)))],1⟩) (fun k=>k≤es.length∧wo id k (es.drop k)=wo id 0 es) (fun k=>es.length - k) 0 ⟨by omega,by simp⟩ ?_ ?_
 ·skip
  repeat' (first|apply And.intro|(intro h;try exact cDd)|exact cSd|apply qb []|refine exr ?_|refine qe ?_)
  all_goals (simp;done)
 ·rintro k ⟨hk,a4⟩
  by_cases b8:k<es.length
  ·have hx:es[k]? = some es[k]:=List.getElem?_eq_getElem b8
   have c8:(es.map entA)[k]? = some (entA es[k]):=by rw [List.getElem?_map,hx];rfl
   rw [List.drop_eq_getElem_cons b8,wo] at a4;generalize es[k]=e at hx c8 a4;have h1:=fun st=>zga e id st;by_cases o9:e.id=id
   ·rw [if_pos o9] at a4
    rw [decide_eq_true o9] at h1;rw [← a4];apply qd [];repeat' (first|apply And.intro|(intro h;try exact cDd)|(refine qha (i:=k) rfl rfl rfl rfl rfl rfl (by omega) ?_)|(refine qj8 (i:=k) (j:=0) rfl rfl rfl rfl c8 rfl rfl ?_)|exact⟨Tryz.call136⟩|refine cpe h1 ?_|exact cSd|apply qb []|refine exr ?_|refine qe ?_)
   ·rw [if_neg o9] at a4
    rw [decide_eq_false o9] at h1;apply qd [];repeat' (first|apply And.intro|(intro h;try exact cDd)|(refine qha (i:=k) rfl rfl rfl rfl rfl rfl (by omega) ?_)|(refine qj8 (i:=k) (j:=0) rfl rfl rfl rfl c8 rfl rfl ?_)|exact⟨Tryz.call136⟩|refine cpe h1 ?_|(refine Exists.intro (k+1) ⟨⟨by omega,a4⟩,by omega,?_⟩)|exact cSd|apply qb []|refine exr ?_|refine qe ?_)
  ·have b8:k=es.length:=by omega
   subst b8;rw [List.drop_length,wo] at a4;rw [← a4];apply qd [];repeat' (first|apply And.intro|(intro h;try exact cDd)|exact cSd|apply qb []|refine exr ?_|refine qe ?_)
theorem qwb (l:qz) (id:Int) (hl:l.ents.length<1000000):v4 E 77 [.bx 0 0,.i id] 2 (hpF (lstH 1 l)) ⟨.i (atF l id),wb (lstH 1 l),lstH 1 l++ww (lstH 1 l),2⟩:=by
 refine yj [.bx 0 0,.i id] (lstH 1 l) 2 (.i (atF l id)) (lstH 1 l) 2 Tryz.func77 rfl rfl rfl rfl fun S F ρ=>?_;unfold atF;have h1:=zei l.ents id hl;by_cases h:id<1
 ·rw [if_pos h]
  apply qd [];repeat' (first|apply And.intro|(intro h;try exact cDd)|exact cSd|apply qb []|refine exr ?_|refine qe ?_)
 ·rw [if_neg h]
  apply qd [];repeat' (first|apply And.intro|(intro h;try exact cDd)|exact⟨Tryz.call135⟩|(refine j6 h1 ?_)|exact cSd|apply qb []|refine exr ?_|refine qe ?_)
end Go.Proofs.YtneejjefekdgjaaGreatDoor
namespace Go.Pl
open Go Go.Proofs
def qw4 (fs:List Fld):qa:=if jx fs = .no then zu fs else []
def yx (fs:List Fld):ze:=if jx fs = .no then⟨3,zu fs,fs⟩ else⟨0,[],[]⟩
def ko (its:List ze):qa:=its.flatMap fun x=>x.raw
theorem qb6 (a b:List ze):ko (a++b)=ko a++ko b:=by simp [ko]
theorem qc1 (x:ze):ko [x]=x.raw:=by simp [ko]
def kl (prev:Bool):List ze→List ze
 | []=>[]
 |x::r=>(if prev=true∧x.kind≠1 then [⟨1,[10],[]⟩,x] else [x])++kl (decide (x.kind≠1)) r
def yt (its:List ze):List ze:=kl false its
def zv (l:qz):List ze:=l.ents.map fun e=>e.x
def qav (l:qz):qa:=ko (yt (zv l))
end Go.Pl
namespace Go.Proofs.YtneejjefekdgjaaGreatDoor
open Go Go.Av Go.RowKit Go.Proofs Go.Pl
theorem zbw (fs:List Fld) (st:List AObj) (hK:KeyB fs) (hl:fs.length<9223372036854775808):qo E 286 [jr fs] st fun r st'=>r = .tu [Sv (qw4 fs),errA (jx fs)]∧st'=st:=by
 refine zg [.a (jr fs)] (jg (qq _) (km _)) Tryz.func286 rfl rfl (fun _=>rfl) rfl fun S0=>?_;unfold qw4
 cases he:jx fs with
 |no=>
  rw [if_pos rfl];have h1:=fun st=>qnj fs st _ he hK hl;obtain⟨_,h3,h4⟩:=qei he;have h2:=fun st=>que fs st h3 h4;apply qd []
  repeat' (first|apply And.intro|(intro h;try exact cDd)|exact⟨Tryz.call228⟩|refine cpe h1 ?_|exact⟨Tryz.call167⟩|refine cpe h2 ?_|exact cSd|apply qb []|refine exr ?_|refine qe ?_)
 |num n=>
  rw [if_neg (by simp)];have h1:=fun st=>qnj fs st _ he hK hl;apply qd []
  repeat' (first|apply And.intro|(intro h;try exact cDd)|exact⟨Tryz.call228⟩|refine cpe h1 ?_|exact cSd|apply qb []|refine exr ?_|refine qe ?_)
 |at' a n=>
  rw [if_neg (by simp)];have h1:=fun st=>qnj fs st _ he hK hl;apply qd [];repeat' (first|apply And.intro|(intro h;try exact cDd)|exact⟨Tryz.call228⟩|refine cpe h1 ?_|exact cSd|apply qb []|refine exr ?_|refine qe ?_)
theorem q6t (fs:List Fld) (st:List AObj) (hK:KeyB fs) (hl:fs.length<1000000):qo E 229 [jr fs] st fun r st'=>r = .tu [jh (yx fs),errA (jx fs)]∧st'=st:=by
 refine zg [.a (jr fs)] (jg (yg (qdl _)) (km _)) Tryz.func229 rfl rfl (fun _=>rfl) rfl fun S0=>?_;have h1:=fun st=>zbw fs st hK (by omega);have h2:=fun st=>qi1 fs st hl;unfold qw4 at h1;unfold yx
 cases he:jx fs with
 |no=>
  rw [he,if_pos rfl] at h1;rw [if_pos rfl];apply qd []
  repeat' (first|apply And.intro|(intro h;try exact cDd)|exact⟨Tryz.call286⟩|refine cpe h1 ?_|exact⟨Tryz.call71⟩|refine cpe h2 ?_|exact cSd|apply qb []|refine exr ?_|refine qe ?_)
 |num n=>
  rw [he,if_neg (by simp)] at h1;rw [if_neg (by simp)];apply qd []
  repeat' (first|apply And.intro|(intro h;try exact cDd)|exact⟨Tryz.call286⟩|refine cpe h1 ?_|exact cSd|apply qb []|refine exr ?_|refine qe ?_)
 |at' a n=>
  rw [he,if_neg (by simp)] at h1;rw [if_neg (by simp)];apply qd [];repeat' (first|apply And.intro|(intro h;try exact cDd)|exact⟨Tryz.call286⟩|refine cpe h1 ?_|exact cSd|apply qb []|refine exr ?_|refine qe ?_)
theorem zdy (x:ze) (st:List AObj) (hl:x.fields.length<1000000):qo E 227 [jh x] st fun r st'=>r=jh x∧st'=st:=by
 refine zg [.a (jh x)] (yg (qdl _)) Tryz.func227 rfl rfl (fun _=>rfl) rfl fun S0=>?_;have h2:=fun st=>qi1 x.fields st hl;apply qd [1];repeat' (first|apply And.intro|(intro h;try exact cDd)|exact⟨Tryz.call71⟩|refine cpe h2 ?_|exact cSd|apply qb [1]|refine exr ?_|refine qe ?_)
structure ItsB (its:List ze):Prop where
 len:its.length≤1000000
 fld:∀ x∈its,x.fields.length<1000000
theorem qoj (prev:Bool):∀ its:List ze,(kl prev its).length≤2 * its.length
 | []=>by simp [kl]
 |x::r=>by
  have ih:=qoj (decide (x.kind≠1)) r;unfold kl;split <;> simp only [List.length_append,List.length_cons,List.length_nil] <;> omega
theorem ze1 (its:List ze) (st:List AObj) (hB:ItsB its):qo E 151 [j5 its] st fun r st'=>r=j5 (yt its)∧st'=st:=by
 refine zg [.a (j5 its)] (qak _) Tryz.func151 rfl rfl (fun _=>rfl) rfl fun S0=>?_;have lg:=hB.len;apply qd [];repeat' (first|apply And.intro|(intro h;try exact cDd)|exact cSd|apply qb []|refine exr ?_|refine qe ?_)
 refine zw (X:=Nat×List ze) (fun (k,out)=>⟨[(0,.a (j5 its)),(3,.tp 0),(6,.a (j5 its)),(7,.i its.length),(8,.i k)],[(0,some (.tip 3 52 (out.map jh)))],1⟩)
  (fun (k,out)=>k≤its.length∧out.length≤2 * k∧∃ prev,(prev=true↔∃ y,0<k∧its[k - 1]? = some y∧y.kind≠1)∧out++kl prev (its.drop k)=yt its) (fun (k,out)=>its.length - k) (0,[]) ⟨by omega,by simp,false,by simp,rfl⟩ ?_ ?_
 ·skip
  repeat' (first|apply And.intro|(intro h;try exact cDd)|exact cSd|apply qb []|refine exr ?_|refine qe ?_)
  all_goals (simp;done)
 ·rintro⟨k,out⟩ ⟨hk,fm,prev,hpv,a4⟩
  by_cases b8:k<its.length
  ·have hx:its[k]? = some its[k]:=List.getElem?_eq_getElem b8
   have c8:(its.map jh)[k]? = some (jh its[k]):=by rw [List.getElem?_map,hx];rfl
   have hxf:=hB.fld its[k] (List.getElem_mem b8);rw [List.drop_eq_getElem_cons b8,kl] at a4;generalize its[k]=x at hx c8 a4 hxf;have nv:=fun st=>zdy x st hxf;have e8:(out.map jh).length=out.length:=by simp
   have cr:(decide (x.kind≠1)=true↔∃ y,0<k+1∧its[k+1 - 1]? = some y∧y.kind≠1):=by
    rw [decide_eq_true_iff,Nat.add_sub_cancel,hx];constructor
    ·intro h
     exact⟨x,by omega,rfl,h⟩
    ·rintro⟨y,_,h1,h2⟩
     simp only [Option.some.injEq] at h1;rw [h1];exact h2
   by_cases hk0:k=0
   ·have hp:¬ (prev=true):=fun h=>by
     obtain⟨_,h,_⟩:=hpv.1 h;omega
    rw [if_neg (fun h=>hp h.1)] at a4;apply qd [];repeat' (first|apply And.intro|(intro h;try exact cDd)|(refine Exists.intro (k) ⟨by omega,_,c8,?_⟩)|exact⟨Tryz.call227⟩|refine cpe nv ?_|(refine Exists.intro (k+1,out++[x]) ⟨⟨by omega,by simp;omega,_,cr,by rw [← a4];simp⟩,by simp only;omega,?_⟩)|exact cSd|apply qb []|refine exr ?_|refine qe ?_)
    all_goals first|(simp [SV.evs,SV.ev];done)|(simp [SV.evs];omega)
   ·obtain⟨y,hy⟩:∃ y,its[k - 1]? = some y:=⟨_,List.getElem?_eq_getElem (by omega:k - 1<its.length)⟩
    have hym:(its.map jh)[k - 1]? = some (jh y):=by rw [List.getElem?_map,hy];rfl
    have hpy:(prev=true↔y.kind≠1):=by
     rw [hpv];constructor
     ·rintro⟨z,_,h1,h2⟩
      rw [hy] at h1;simp only [Option.some.injEq] at h1;rw [h1];exact h2
     ·exact fun h=>⟨y,by omega,hy,h⟩
    by_cases hb:x.kind≠1∧y.kind≠1
    ·rw [if_pos ⟨hpy.2 hb.2,hb.1⟩] at a4
     obtain⟨i5,i6⟩:=hb;apply qd [];repeat' (first|apply And.intro|(intro h;try exact cDd)|(refine Exists.intro (k) ⟨by omega,_,c8,?_⟩)|(refine Exists.intro (k - 1) ⟨by omega,_,hym,?_⟩)|exact⟨Tryz.call227⟩|refine cpe nv ?_|(refine Exists.intro (k+1,out++[⟨1,[10],[]⟩,x]) ⟨⟨by omega,by simp;omega,_,cr,by rw [← a4];simp⟩,by simp only;omega,?_⟩)|exact cSd|apply qb []|refine exr ?_|refine qe ?_)
     all_goals first|(simp [SV.evs,SV.ev];done)|(simp [SV.evs];omega)
    ·rw [if_neg (fun h=>hb ⟨h.2,hpy.1 h.1⟩)] at a4
     apply qd [];repeat' (first|apply And.intro|(intro h;try exact cDd)|(refine Exists.intro (k) ⟨by omega,_,c8,?_⟩)|(refine Exists.intro (k - 1) ⟨by omega,_,hym,?_⟩)|exact⟨Tryz.call227⟩|refine cpe nv ?_|(refine Exists.intro (k+1,out++[x]) ⟨⟨by omega,by simp;omega,_,cr,by rw [← a4];simp⟩,by simp only;omega,?_⟩)|exact absurd ⟨by assumption,by assumption⟩ hb|exact cSd|apply qb []|refine exr ?_|refine qe ?_)
     all_goals first|(simp [SV.evs,SV.ev];done)|(simp [SV.evs];omega)
  ·have b8:k=its.length:=by omega
   subst b8;rw [List.drop_length,kl,List.append_nil] at a4;rw [← a4];apply qd [];repeat' (first|apply And.intro|(intro h;try exact cDd)|exact cSd|apply qb []|refine exr ?_|refine qe ?_)
theorem ziv (its:List ze) (st:List AObj) (hl:its.length≤4000000) (hr:(ko its).length≤1000000000000):qo E 150 [j5 its] st fun r st'=>r=Sv (ko its)∧st'=st:=by
 refine qx (qq _) (qp Tryz.func150 rfl (Nat.le_of_ble_eq_true rfl) ?_);have e8:(its.map jh).length=its.length:=by simp
 repeat' (first|(apply qhk;exact rfl)|apply qn|apply qy|apply qf|apply qh|apply qj|apply qg|(apply jm;(iterate 4 exact rfl)))
 refine qbv its (fun pre s=>∃ q,(q = .v (.pointer none)∨q = .bx (st.length+0) 0 0)∧StE [(3,.bx (st.length+0) 0 0),(6,j5 its),(7,Iv its.length),(8,Iv pre.length)] st [bldO 0 q (ko pre) (st.length+1),.tip (ko pre).length 1 5] s) ⟨_,.inl rfl,qez ⟨rfl,rfl,congrArg (fun n:Nat=>Iv (n:Int)) e8,rfl,trivial⟩ rfl⟩ ?_ ?_
 ·rintro _ ⟨q,hq,t,ext,rfl⟩
  repeat' (first|apply qn|apply qf|apply qh|apply qg|(apply qs;(iterate 3 exact rfl))|(apply qc;exact rfl;apply vr;exact cAo)|apply jd|apply qt|(refine qk Tryz.call171 (qhn st _ _ _ _ 0 1 0 _ _ rfl rfl rfl) ?_))
  exact qm rfl (q5 rfl) ⟨rfl,qa9 _ _ _ _⟩
 ·rintro pre x rest _ rj ⟨q,hq,t,ext,rfl⟩
  have a7:its.length=pre.length+(rest.length+1):=by rw [rj];simp
  have b5:(its.map jh)[pre.length]? = some (jh x):=by rw [rj];simp
  have t7:(ko pre).length+x.raw.length≤1000000000000:=by
   have e:x::rest=[x]++rest:=rfl;rw [rj,qb6,e,qb6,qc1] at hr;simp only [List.length_append] at hr;omega
  repeat' (first|apply qn|apply qy|apply qf|apply qh|(apply qs;(iterate 3 exact rfl))|(apply qc;exact rfl;apply vf;exact cAo)|(apply jw;exact rfl;exact rfl)|(apply zj;(iterate 3 exact rfl))|(apply jn;(iterate 3 exact rfl))|(apply jl;(iterate 5 exact rfl))|(apply z4;(iterate 11 exact rfl))|apply qw|(apply kp (n:=pre.length);(iterate 5 exact rfl);exact b5))
  refine qk Tryz.call168 (qiw st _ _ _ _ 0 1 0 _ _ _ rfl rfl ?_ ?_ rfl) ?_;(exact hq);(omega);repeat' (first|apply qf|apply qh|apply qj|(apply zl;exact rfl;exact rfl;exact q6 (by omega) (by omega)))
  refine⟨_,.inr rfl,qbh ⟨rfl,rfl,rfl,?_,trivial⟩ ?_⟩
  ·rw [qdc pre x];rfl
  ·rw [qb6,qc1];rfl
theorem zfl (its:List ze) (st:List AObj) (hB:ItsB its) (hr:(ko (yt its)).length≤1000000000000):qo E 88 [j5 its] st fun r st'=>r=Sv (ko (yt its))∧st'=st:=by
 refine zg [.a (j5 its)] (qq _) Tryz.func88 rfl rfl (fun _=>rfl) rfl fun S0=>?_;have h1:=fun st=>ze1 its st hB;have sm:=qoj false its;have lg:=hB.len;have h2:=fun st=>ziv (yt its) st (by unfold yt;omega) hr;apply qd [];repeat' (first|apply And.intro|(intro h;try exact cDd)|exact⟨Tryz.call151⟩|refine cpe h1 ?_|exact⟨Tryz.call150⟩|refine cpe h2 ?_|exact cSd|apply qb []|refine exr ?_|refine qe ?_)
theorem zeq (l:qz) (st:List AObj) (hB:ItsB (zv l)):qo E 89 [vm l] st fun r st'=>r=j5 (zv l)∧st'=st:=by
 refine zg [.a (vm l)] (qak _) Tryz.func89 rfl rfl (fun _=>rfl) rfl fun S0=>?_;have lg:=hB.len;have db:(zv l).length=l.ents.length:=by simp [zv]
 apply qd [];repeat' (first|apply And.intro|(intro h;try exact cDd)|exact cSd|apply qb []|refine exr ?_|refine qe ?_)
 refine zw (X:=Nat) (fun k=>⟨[(3,.tp 0),(12,.a (.sl 4 (l.ents.map entA) none)),(13,.i l.ents.length),(14,.i k)],[(0,some (.tip 3 52 (((zv l).take k).map jh)))],1⟩)
  (fun k=>k≤l.ents.length) (fun k=>l.ents.length - k) 0 (by omega) ?_ ?_
 ·skip
  repeat' (first|apply And.intro|(intro h;try exact cDd)|exact cSd|apply qb []|refine exr ?_|refine qe ?_)
  all_goals (simp;done)
 ·rintro k hk
  by_cases b8:k<l.ents.length
  ·have hx:l.ents[k]? = some l.ents[k]:=List.getElem?_eq_getElem b8
   have c8:(l.ents.map entA)[k]? = some (entA l.ents[k]):=by rw [List.getElem?_map,hx];rfl
   have hxi:(zv l)[k]? = some l.ents[k].x:=by unfold zv;rw [List.getElem?_map,hx];rfl
   have hxf:=hB.fld l.ents[k].x (List.mem_of_getElem? hxi);have d2:(zv l).take (k+1)=(zv l).take k++[l.ents[k].x]:=by rw [List.take_add_one,hxi];rfl
   have mz:(((zv l).take k).map jh).length≤k:=by simp;omega
   generalize l.ents[k]=e at hx c8 hxi hxf d2;have nv:=fun st=>qi1 e.x.fields st hxf;apply qd [];repeat' (first|apply And.intro|(intro h;try exact cDd)|(refine Exists.intro (k) ⟨by omega,_,c8,?_⟩)|exact⟨Tryz.call71⟩|refine cpe nv ?_|(refine Exists.intro (k+1) ⟨by omega,by omega,?_⟩)|exact cSd|apply qb []|refine exr ?_|refine qe ?_)
   all_goals first|(rw [d2];simp;done)|(simp [SV.evs];omega)
  ·have b8:k=l.ents.length:=by omega
   subst b8;have e:(zv l).take l.ents.length=zv l:=List.take_of_length_le (by omega);rw [e];apply qd [];repeat' (first|apply And.intro|(intro h;try exact cDd)|exact cSd|apply qb []|refine exr ?_|refine qe ?_)
theorem zh4 (l:qz) (st:List AObj) (hB:ItsB (zv l)) (hr:(qav l).length≤1000000000000):qo E 43 [vm l] st fun r st'=>r=Sv (qav l)∧st'=st:=by
 refine zg [.a (vm l)] (qq _) Tryz.func43 rfl rfl (fun _=>rfl) rfl fun S0=>?_;have h1:=fun st=>zeq l st hB;have h2:=fun st=>zfl (zv l) st hB hr;apply qd [];repeat' (first|apply And.intro|(intro h;try exact cDd)|exact⟨Tryz.call89⟩|refine cpe h1 ?_|exact⟨Tryz.call88⟩|refine cpe h2 ?_|exact cSd|apply qb []|refine exr ?_|refine qe ?_)
end Go.Proofs.YtneejjefekdgjaaGreatDoor
