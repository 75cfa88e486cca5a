/- Contracts and plain facts that the closing text leans on (part 8). No condition of their own beyond those that each states. -/
import Derived.Test.YtihlchbgjdkmpaaGreatDoorK7
import Derived.Lib.SliceRun
set_option maxRecDepth 100000
set_option linter.unusedVariables false
set_option linter.unusedSimpArgs false
open And renaming intro→Qa
open Exists renaming intro→Qb
open Int renaming natCast_add→Qk,toNat_natCast→Qr
open List renaming getElem?_eq_getElem→Qc,drop_drop→Qd,drop_eq_getElem_cons→Qf,length_pos_iff→Qg,mem_cons→Qh,drop_left→Qi,append_nil→Qj,append_assoc→Ql,mem_of_getElem?→Qm,length_eq_zero_iff→Qn,length→Qo,take_append_drop→Qp,mem_append→Qq,getElem?_append_left→Qs,not_mem_nil→Qt,length_append→Qu,drop_eq_nil_of_le→Qv,exists_cons_of_ne_nil→Qx,getElem?_eq_some_iff→Qy,prefix_refl→Za,mem_singleton→Zb,getLast?_eq_getElem?→Zd,mem_map→Ze,length_nil→Zf,map_append→Zg,nil_append→Zh,length_map→Zi,take_of_length_le→Zj,take_left→Zk,mem_of_mem_drop→Zl,prefix_append→Zm,mem_cons_self→Zn,map_set→Zo,getLast?_cons→Zp,getElem?_map→Zr,length_cons→Zs,cons_append→Zt,drop_length→Zu,length_set→Zv,drop_zero→Zw,getD→Zy
open List.cons renaming inj→Qz
open Nat renaming le_refl→Qe,le_of_ble_eq_true→Qw,le_trans→Zx
open Option.some renaming injEq→Zq,inj→Zz
open Prod.mk renaming injEq→Zc,inj→Xa
namespace Go.Proofs.YtihlchbgjdkmpaaGreatDoor
open Go Go.Av Go.RowKit Go.Proofs Go.Pl
def qdo:Option (List qp)->AV
 |none=>.tu [zr [],Bv false]
 |some b=>.tu [zr b,Bv true]
end Go.Proofs.YtihlchbgjdkmpaaGreatDoor
namespace Go.Pl
open Go Go.Proofs
def vi:List (qc×Bool)->List qc
 | []=>[]
 |(t,_)::r=>if qy t=3 then t::vi r else []
def ko(prev:Bool)(t:qc)(e:Bool)(r:List (qc×Bool))(fields:Nat)(records:Int):Int:=
 if qy t=5∨(qy t=3∧prev=false)∨e=false then 2
 else if qy t≠4 then 0
 else if(zv (t::vi r)).2≠0 then(zv (t::vi r)).2
 else if 40<=fields∨(fields=0∧400<=records)then 11 else 0
theorem qs9{α:Type}{l:List α}{x:α}(h:l.getLast?=some x):l.dropLast++[x]=l:=by
 have b9:l≠[]:=λe=>by subst e;simp at h
 rw[List.getLast?_eq_some_getLast b9]at h;obtain rfl:=Zz h;exact List.dropLast_concat_getLast b9
def outR(now:zh)(out:List zh):List zh:=if now.raw=[]then out else out++[now]
def refL:Nat->List (qc×Bool)->Bool->zh->Int->List zh->Option (Int×Int)×List zh
 |_,[],_,now,_,out=>(none,outR now out)
 |i,(t,e)::r,prev,now,rec,out=>
  if ko prev t e r now.fields.length rec≠0 then(some ((i:Int),ko prev t e r now.fields.length rec),[])
  else if qy t=1 then refL (i+1) r false ⟨2,[],[]⟩ rec (outR now out++[⟨1,t++[10],[]⟩])
  else if qy t=4 then refL (i+1) r true ⟨3,now.raw++t++[10],now.fields++[(zv (t::vi r)).1]⟩ (if now.kind=2 then rec+1 else rec) out
  else refL (i+1) r (decide (qy t=3)) ⟨now.kind,now.raw++t++[10],now.fields⟩ rec out
def q2n:List (qc×Bool)->Prop
 | []=>True
 |(_,e)::r=>(e=false->r=[])∧q2n r
theorem qtl:∀(n:Nat)(l:qc),l.length<=n->q2n (zp l)
 |0,l,h=>by
  have:l=[]:=Qn.1 Om;subst this;rw[vu]
  trivial
 |n+1,l,h=>by
  by_cases hl:l=[]
  .subst hl
   rw[vu];trivial
  .rw[wh hl]
   refine⟨λhe=>?_,qtl n _ (by have:=xp (c:=10) hl;omega)⟩;have g9:10∉l:=by simpa using he
   have:past 10 l=[]:=by
    unfold past;rw[xx g9];exact Qv Om
   rw[this,vu]
def qfy(ls:List qc)(full:Bool):Int:=if(zv ls).2≠0 then(zv ls).2 else if full=true then 11 else 0
theorem qkb{p:PSt}(h:p.lines≠[])(hc:qfy p.lines p.full≠0):(ka p).1=some (p.frm,qfy p.lines p.full):=by
 unfold qfy at *;unfold ka;rw[if_neg h];by_cases h1:(zv p.lines).2≠0
 .rw[if_pos h1,if_pos h1]
 .rw[if_neg h1]at hc⊢
  rw[if_neg h1];by_cases h2:p.full=true
  .rw[if_pos h2,if_pos h2]
  .rw[if_neg h2]at hc
   exact absurd rfl hc
theorem q0s{p:PSt}(h:p.lines=[]∨qfy p.lines p.full=0):ka p=(none,{p with lines:=[],fields:=p.fields++(if p.lines=[]then []else [(zv p.lines).1])}):=by
 unfold ka;by_cases h0:p.lines=[]
 .rw[if_pos h0,if_pos h0]
  obtain⟨a,b,c,d,e,f,g⟩:=p;simp only at h0;subst h0;simp
 .rw[if_neg h0,if_neg h0]
  have h:=h.resolve_left h0;unfold qfy at h;by_cases h1:(zv p.lines).2≠0
  .rw[if_pos h1]at h
   exact absurd h h1
  .rw[if_neg h1]at h⊢
   by_cases h2:p.full=true
   .rw[if_pos h2]at h
    simp at h
   .rw[if_neg h2]
theorem qu8{p:PSt}{no:Int}{t:qc}{e:Bool}{x:Int×Int}(h:(j6 p no t e (qy t)).1=some x):(xi p no t e).1=some x:=by
 unfold xi;rw[h]
theorem qu9{p q:PSt}{no:Int}{t:qc}{e:Bool}(h:j6 p no t e (qy t)=(none,q))(hc:qy t=5∨e=false):(xi p no t e).1=some (no,2):=by
 unfold xi;rw[h];simp only;rw[if_pos hc]
theorem qn3{p q:PSt}{no:Int}{t:qc}(h:j6 p no t true (qy t)=(none,q))(hc:qy t≠5):xi p no t true=
  if qy t=1 then(none,{q with items:=q.items++[⟨1,t++[10],[]⟩]})else if qy t=4 then(none,{vg q no t with block:=q.block++[t]})else(none,{q with block:=q.block++[t]}):=by
 unfold xi;rw[h];simp only;rw[if_neg (by simp[hc])]
theorem qg6{k:Nat}{t:qc}{e:Bool}{r:List (qc×Bool)}{p:PSt}{x:Int×Int}(h:(xi p k t e).1=some x):(runL k ((t,e)::r) p).1=some x:=by
 rw[runL,h]
theorem qjp{k:Nat}{t:qc}{e:Bool}{r:List (qc×Bool)}{p q:PSt}(h:xi p k t e=(none,q)):runL k ((t,e)::r) p=runL (k+1) r q:=by
 rw[runL,h]
theorem qvo{p:PSt}{no:Int}{t:qc}(hk:qy t=3)(hl:p.lines≠[]):j6 p no t true (qy t)=(none,{p with lines:=p.lines++[t]}):=by
 unfold j6;rw[if_pos hk,if_neg hl,if_pos rfl]
theorem qvn{p:PSt}{no:Int}{t:qc}(hk:qy t=3)(hl:p.lines≠[]):j6 p no t false (qy t)=ka {p with lines:=p.lines++[t]}:=by
 unfold j6;rw[if_pos hk,if_neg hl,if_neg Sx]
theorem qim{p:PSt}{no:Int}{t:qc}{e:Bool}(hk:qy t≠3)(h1:qy t≠1):j6 p no t e (qy t)=ka p:=by
 unfold j6;rw[if_neg hk,if_neg h1]
theorem qmu{p:PSt}{no:Int}{t:qc}{e:Bool}(h1:qy t=1):j6 p no t e (qy t)=endP p:=by
 unfold j6;rw[if_neg Om,if_pos h1]
theorem qo1{t:qc}{e:Bool}{r:List (qc×Bool)}(h:qy t≠3):vi ((t,e)::r)=[]:=by
 rw[vi,if_neg h]
theorem qi3{t:qc}{e:Bool}{r:List (qc×Bool)}(h:qy t=3):vi ((t,e)::r)=t::vi r:=by
 rw[vi,if_pos h]
theorem q4g{p:PSt}{x:Int×Int}(h:(ka p).1=some x):(endP p).1=some x:=by
 unfold endP;rw[h]
theorem qys{p q:PSt}(h:ka p=(none,q)):endP p=(none,yy q):=by
 unfold endP;rw[h]
theorem q58:∀(r:List (qc×Bool))(p:PSt)(k:Nat)(c:Int),q2n r->p.lines≠[]->qfy (p.lines++vi r) p.full=c->c≠0->(runL k r p).1=some (p.frm,c)
 | [],p,k,c,_,hl,hc,h0=>by
  rw[vi,Qj]at hc;rw[runL];subst hc
  exact q4g (qkb hl h0)
 |(t,e)::r,p,k,c,hE,hl,hc,h0=>by
  by_cases h3:qy t=3
  .rw[qi3 h3]at hc
   cases e with
   |true=>
    have ht:=qn3 (qvo (no:=k) h3 hl) Om;rw[if_neg Om,if_neg Om]at ht;rw[qjp ht]
    exact q58 r _ (k+1) c hE.2 Sx (by simpa using hc) h0
   |false=>
    have hr:=hE.1 rfl;subst hr;refine qg6 (qu8 ?_);rw[qvn h3 hl];have sd:qfy (p.lines++[t]) p.full=c:=hc;have:=qkb (p:={p with lines:=p.lines++[t]}) Sx (by simp only;rw[sd];exact h0);simp only at this;rw[this,sd]
  .rw[qo1 h3,Qj]at hc
   subst hc;refine qg6 (qu8 ?_);by_cases h1:qy t=1
   .rw[qmu h1]
    exact q4g (qkb hl h0)
   .rw[qim h3 h1]
    exact qkb hl h0
structure Sim (r:List (qc×Bool)) (p:PSt) (prev:Bool) (now:zh) (rec:Int) (out:List zh):Prop where
 hprev:prev=decide (p.lines≠[])
 hok:p.lines=[]∨qfy (p.lines++vi r) p.full=0
 hraw:now.raw=zk p.block
 hfields:now.fields=p.fields++(if p.lines=[]then []else [(zv (p.lines++vi r)).1])
 hkind:now.kind=if now.fields=[]then 2 else 3
 hrec:rec=p.records+if now.fields=[]then 0 else 1
 hout:out=p.items
 hempty:p.block=[]->p.lines=[]∧p.fields=[]
 b1:now.fields.length<=40
 b2:rec<=400
theorem zg6(b:List qc):zk b=[]↔b=[]:=by
 cases b with
 |nil=>simp[zk]
 |cons x r=>simp[zk]
theorem qpp(b:List qc)(t:qc):zk (b++[t])=zk b++t++[10]:=by simp[zk]
theorem Sim.flush{r:List (qc×Bool)}{p:PSt}{prev:Bool}{now:zh}{rec:Int}{out:List zh}(h:Sim r p prev now rec out)(hm:vi r=[]):ka p=(none,{p with lines:=[],fields:=now.fields}):=by
 have h1:=h.hok;have h2:=h.hfields;rw[hm,Qj]at h1 h2;rw[q0s h1,h2]
theorem Sim.close{r:List (qc×Bool)}{p:PSt}{prev:Bool}{now:zh}{rec:Int}{out:List zh}(h:Sim r p prev now rec out)(hm:vi r=[]):yy {p with lines:=[],fields:=now.fields}={p with lines:=[],fields:=[],block:=[],items:=outR now out,records:=rec}:=by
 have hk:=h.hkind;have hr:=h.hrec;have hw:=h.hraw;have ho:=h.hout;unfold yy outR;simp only;by_cases hb:p.block=[]
 .obtain⟨e1,e2⟩:=h.hempty hb
  have hf:now.fields=[]:=by rw[h.hfields,e1,e2];simp
  rw[if_pos hb,if_pos (by rw[hw,hb];rfl),ho,hr,hf];simp
 .have b9:¬now.raw=[]:=by rw[hw,zg6];exact hb
  rw[if_neg hb,if_neg b9,ho,hr,<-hw];obtain⟨nk,nr,nf⟩:=now;simp only at hk b9⊢;by_cases hf:nf=[]
  .rw[if_pos hf]at hk
   simp[hf,hk,b9]
  .rw[if_neg hf]at hk
   simp[hf,hk,b9]
theorem qnz:∀(r:List (qc×Bool))(k:Nat)(p:PSt)(prev:Bool)(now:zh)(rec:Int)(out:List zh),q2n r->Sim r p prev now rec out->
  refL k r prev now rec out=match(runL k r p).1 with
   |some e=>(some e,[])
   |none=>(none,(runL k r p).2.items)
 | [],k,p,prev,now,rec,out,_,h=>by
  rw[runL,qys (h.flush rfl),h.close rfl,refL]
 |(t,e)::r,k,p,prev,now,rec,out,hE,h=>by
  rw[refL];by_cases h3:qy t=3
  .by_cases hl:p.lines=[]
   .have hp:prev=false:=by rw[h.hprev];simp[hl]
    have hw:ko prev t e r now.fields.length rec=2:=by
     unfold ko;rw[if_pos (.inr (.inl ⟨h3,hp⟩))]
    rw[hw,if_pos (by decide),qg6 (x:=((k:Int),2)) (qu8 (by unfold j6;rw[if_pos h3,if_pos hl]))]
   .cases e with
    |true=>
     have hp:prev=true:=by rw[h.hprev];simp[hl]
     have hw:ko prev t true r now.fields.length rec=0:=by
      unfold ko;rw[if_neg (by simp[hp];omega),if_pos Om]
     have ht:=qn3 (qvo (no:=k) h3 hl) Om;rw[if_neg Om,if_neg Om]at ht;rw[hw,if_neg Sx,if_neg Om,if_neg Om,qjp ht];have hm:=qi3 (e:=true) (r:=r) h3;have hok:=h.hok.resolve_left hl;have hfs:=h.hfields;rw[if_neg hl,hm]at hfs;rw[hm]at hok
     refine qnz r (k+1) _ _ _ _ _ hE.2 ⟨by simp[h3],.inr (by simpa using hok),by rw[qpp,<-h.hraw],by simp[hfs],h.hkind,h.hrec,h.hout,Sx,h.b1,h.b2⟩
    |false=>
     have hr:=hE.1 rfl;subst hr
     have hw:ko prev t false [] now.fields.length rec=2:=by
      unfold ko;rw[if_pos (.inr (.inr rfl))]
     have hok:=h.hok.resolve_left hl;rw[qi3 h3]at hok;have hf:=q0s (p:={p with lines:=p.lines++[t]}) (.inr hok);rw[hw,if_pos (by decide),qg6 (x:=((k:Int),2)) (qu9 ((qvn h3 hl).trans hf) (.inr rfl))]
  .have hm:=qo1 (e:=e) (r:=r) h3
   have hf:=h.flush hm;have hc:=h.close hm;by_cases dr:qy t=5∨e=false
   .have hw:ko prev t e r now.fields.length rec=2:=by
     unfold ko;rw[if_pos (by rcases dr with h|h;exact .inl h;exact .inr (.inr h))]
    rw[hw,if_pos (by decide)];by_cases h1:qy t=1
    .rw[qg6 (x:=((k:Int),2)) (qu9 ((qmu h1).trans (qys hf)) dr)]
    .rw[qg6 (x:=((k:Int),2)) (qu9 ((qim h3 h1).trans hf) dr)]
   .have he:e=true:=by
     cases e with
     |true=>rfl
     |false=>exact absurd (.inr rfl) dr
    have h5:qy t≠5:=λh=>dr (.inl h);subst he;by_cases h1:qy t=1
    .have hw:ko prev t true r now.fields.length rec=0:=by
      unfold ko;rw[if_neg (by simp[h3,h5]),if_pos Om]
     have ht:=qn3 ((qmu (no:=k) h1).trans (qys hf)) h5;rw[if_pos h1,hc]at ht;rw[hw,if_neg Sx,if_pos h1,qjp ht];exact qnz r (k+1) _ _ _ _ _ hE.2 ⟨Sx,.inl rfl,rfl,Sx,Sx,Sx,rfl,Sx,Sx,h.b2⟩
    .by_cases h4:qy t=4
     .have ht:=qn3 ((qim (no:=k) h3 h1).trans hf) h5
      rw[if_neg h1,if_pos h4]at ht;rw[qjp ht];have r6:=h.b1;have t6:=h.b2;have hrec:=h.hrec
      have hfull:(40<=now.fields.length∨(now.fields.length=0∧400<=rec))↔(now.fields.length=40∨(now.fields.length=0∧p.records=400)):=by
       by_cases hz:now.fields=[]
       .rw[if_pos hz]at hrec
        simp only[hz,Zf];constructor
        .rintro(h'|h')
         .exact absurd h' (by decide)
         .exact .inr ⟨trivial,Om⟩
        .rintro(h'|h')
         .exact absurd h' (by decide)
         .exact .inr ⟨trivial,Om⟩
       .have:now.fields.length≠0:=λh=>hz (Qn.1 h)
        constructor
        .rintro(h'|h')
         .exact .inl Om
         .exact absurd h'.1 this
        .rintro(h'|h')
         .exact .inl Om
         .exact absurd h'.1 this
      have hw:ko prev t true r now.fields.length rec=qfy (t::vi r) (decide (now.fields.length=40∨(now.fields.length=0∧p.records=400))):=by
       unfold ko qfy;rw[if_neg (by simp[h3,h5]),if_neg Om];by_cases hu:(zv (t::vi r)).2≠0
       .rw[if_pos hu,if_pos hu]
       .rw[if_neg hu,if_neg hu]
        by_cases hx:40<=now.fields.length∨(now.fields.length=0∧400<=rec)
        .rw[if_pos hx,if_pos (decide_eq_true (hfull.1 hx))]
        .rw[if_neg hx,if_neg (by simpa usingλh=>hx (hfull.2 h))]
      by_cases hw0:ko prev t true r now.fields.length rec=0
      .rw[if_neg (by simp[hw0]),if_neg h1,if_pos h4]
       have hx:¬(40<=now.fields.length∨(now.fields.length=0∧400<=rec)):=λhx=>by
        unfold ko at hw0;rw[if_neg (by simp[h3,h5]),if_neg Om]at hw0;by_cases hu:(zv (t::vi r)).2≠0
        .rw[if_pos hu]at hw0;exact hu hw0
        .rw[if_neg hu,if_pos hx]at hw0;simp at hw0
       rw[hw]at hw0;refine qnz r (k+1) _ _ _ _ _ hE.2 ⟨by simp[vg],.inr hw0,by simp only[vg];rw[qpp,<-h.hraw],by simp[vg],Sx,?_,h.hout,by simp[vg],So,?_⟩
       .have px:=h.hkind
        simp only[vg];by_cases hz:now.fields=[]
        .rw[if_pos hz]at hrec px
         rw[px];simp;omega
        .rw[if_neg hz]at hrec px
         rw[px];simp;omega
       .rw[h.hkind]
        by_cases hz:now.fields=[]
        .have:now.fields.length=0:=by rw[hz];rfl
         rw[if_pos hz,if_pos rfl];omega
        .rw[if_neg hz,if_neg (by decide)]
         exact t6
      .rw[if_pos hw0]
       have:=q58 r {vg {p with lines:=[],fields:=now.fields} k t with block:=p.block++[t]} (k+1) (ko prev t true r now.fields.length rec) hE.2 (by simp[vg]) hw.symm hw0;simp only[vg]at this⊢;rw[this]
     .have hw:ko prev t true r now.fields.length rec=0:=by
       unfold ko;rw[if_neg (by simp[h3,h5]),if_pos h4]
      have ht:=qn3 ((qim (no:=k) h3 h1).trans hf) h5;rw[if_neg h1,if_neg h4]at ht;rw[hw,if_neg Sx,if_neg h1,if_neg h4,qjp ht];exact qnz r (k+1) _ _ _ _ _ hE.2 ⟨by simp[h3],.inl rfl,by rw[qpp,<-h.hraw],Sx,h.hkind,h.hrec,h.hout,Sx,h.b1,h.b2⟩
theorem qei(text:qc):refL 0 (zp text) false ⟨2,[],[]⟩ 0 []=ji text:=by
 unfold ji;exact qnz (zp text) 0 p0 false ⟨2,[],[]⟩ 0 [] (qtl _ text (Qe _)) ⟨by simp[p0],.inl rfl,rfl,by simp[p0],Sx,by simp[p0],rfl,by simp[p0],Sx,Om⟩
end Go.Pl
namespace Go.Pl
open Go Go.Proofs Go.Proofs.YtihlchbgjdkmpaaGreatDoor
theorem qxk{l b:qc}{n:Int}(h:zi l=(1,b,n)):yr b∧∃m,l=recF b++m∧n=(recF b).length:=by
 unfold zi at h;split at h
 .rename_i g9
  split at h
  .rename_i ho
   generalize hr:past 10 l=r at *;have hl:=wl g9;rw[hr]at hl;generalize hu:upto 10 l=u at *
   have hop:u=wr (jh u).1 (jh u).2.1∧2<=(jh u).1∧(jh u).1<=50000:=by
    simp only[jh,decide_eq_true_eq]at ho⊢;obtain⟨o1,o2,o3,o4,o5⟩:=ho;refine⟨?_,o3,qa3 _⟩;obtain⟨t,rfl⟩:=o1;rw[qko]at *;have:=qdb rfl (Zx (by decide) o3);unfold wr;rw[<-this,<-wl o2]
   generalize(jh u).1=n at *;generalize(jh u).2.1=fig at *;obtain⟨rfl,h2,hn⟩:=hop;split at h
   .unfold yl at h
    split at h<;>simp at h
   .rename_i fp
    split at h
    .rename_i hg
     have d5:(r.take n).length=n:=So
     unfold xo at h;rw[d5]at h;split at h
     .simp at h
     .split at h
      .rename_i hc
       obtain⟨⟨m,hm⟩,hs⟩:=hc;simp only[Zc,true_and]at h;obtain⟨rfl,rfl⟩:=h;refine⟨hg,m,?_,?_⟩
       .rw[qnx,d5,<-hs,hl]
        unfold recL
        conv=>lhs;rw[<-Qp n r,<-hm]
        simp
       .rw[qts _ hg,d5]
      .simp at h
    .simp at h
  .simp at h
 .split at h<;>simp at h
theorem qy0(s sub:qc)(i:Nat):Lib.occAt s sub i=true↔sub<+:s.drop i:=by
 unfold Lib.occAt;rw[List.isPrefixOf_iff_prefix]
theorem zns{a:qc}(r:qc)(h:10∉a):Lib.cut (a++10::10::r) [10,10]=(a,r,true):=by
 have hi:Lib.index (a++10::10::r) [10,10]=(a.length:Int):=by
  refine Lib.index_first Sx ?_ λj hj=>?_
  .rw[qy0,Qi]
   exact⟨r,rfl⟩
  .cases hb:Lib.occAt (a++10::10::r) [10,10] j with
   |false=>rfl
   |true=>
    obtain⟨t,ht⟩:=(qy0 _ _ _).1 hb;rw[List.drop_append_of_le_length Om]at ht
    have:a.drop j≠[]:=by
     intro e;have:=congrArg Qo e;simp at this;omega
    obtain⟨c,q,hq⟩:=Qx this;rw[hq]at ht;have g9:c=10:=by simpa using(Qz ht).1.symm
    exact absurd (Zl (by rw[hq,g9];simp:(10:UInt8)∈a.drop j)) h
 unfold Lib.cut;rw[hi,if_pos Om];simp only[Qr,List.take_left',Zs,Zf];rw[show a.length+(0+1+1)=(a++[10,10]).length by simp,show a++10::10::r=(a++[10,10])++r by simp,Qi]
theorem zh8{l m:qc}(h:(Lib.cut l m).2.2=true):l=(Lib.cut l m).1++m++(Lib.cut l m).2.1:=by
 rcases Lib.index_spec l m with⟨h1,_⟩|⟨i,h1,h2,h3,_⟩
 .unfold Lib.cut at h
  rw[h1,if_neg Om]at h;simp at h
 .unfold Lib.cut
  rw[h1,if_pos Om];simp only[Qr];obtain⟨t,ht⟩:=(qy0 _ _ _).1 h3;have e:l.drop (i+m.length)=t:=by rw[<-Qd,<-ht,Qi]
  rw[e,Ql,ht,Qp]
def genL:qc:=[35,37,103,101,110,32]
def y6(n:Int):qc:=genL++Lib.itoa n++[10,10]
def x7(n:Int):Prop:=1<=n∧n<=2147483648
instance (n:Int):Decidable (x7 n):=inferInstanceAs (Decidable (_∧_))
def wu(text:qc):Int×qc:=
 if genL<+:text then
  match numZ (upto 10 (text.drop 6))with
  |some n=>if x7 n∧[10,10]<+:text.drop (6+(upto 10 (text.drop 6)).length)then(n,text.drop (8+(upto 10 (text.drop 6)).length))else(0,text)
  |none=>(0,text)
 else(0,text)
theorem qot(v:Int):(10:UInt8)∉Lib.itoa v:=by
 intro h;by_cases hv:v<0
 .rw[qgf hv]at h
  rcases Qh.1 h with h|h
  .simp at h
  .have:=x2 _ _ (Qe _) _ h
   simp at this
 .rw[qgg Om]at h
  have:=x2 _ _ (Qe _) _ h;simp at this
theorem qou(n:Int)(r:qc):y6 n++r=genL++(Lib.itoa n++10::10::r):=by simp[y6]
theorem qpn{n:Int}(h:x7 n)(r:qc):wu (y6 n++r)=(n,r):=by
 unfold wu;have hd:(genL++(Lib.itoa n++10::10::r)).drop 6=Lib.itoa n++10::10::r:=by rw[show(6:Nat)=genL.length by rfl,Qi]
 rw[qou,if_pos (Zm _ _),hd,v7 _ (qot n),qg1 (by have:=h.1;omega) (by have:=h.2;omega)];have e1:(genL++(Lib.itoa n++10::10::r)).drop (6+(Lib.itoa n).length)=10::10::r:=by rw[<-Qd,hd,Qi]
 have e2:(genL++(Lib.itoa n++10::10::r)).drop (8+(Lib.itoa n).length)=r:=by
  rw[show 8+(Lib.itoa n).length=(6+(Lib.itoa n).length)+2 by omega,<-Qd,e1];rfl
 simp only;rw[e1,e2,if_pos ⟨h,r,rfl⟩]
theorem qr0{text:qc}(h:∀n r,x7 n->text≠y6 n++r):wu text=(0,text):=by
 unfold wu;split
 .rename_i hp
  obtain⟨t,rfl⟩:=hp;have hd:(genL++t).drop 6=t:=by rw[show(6:Nat)=genL.length by rfl,Qi]
  rw[hd];split
  .rename_i n hn
   split
   .rename_i hc
    obtain⟨hg,r,hr⟩:=hc;rw[<-Qd,hd]at hr;obtain⟨he,_⟩:=qml hn;refine absurd ?_ (h n r hg);rw[qou,<-he];congr 1
    conv=>lhs;rw[<-Qp (upto 10 t).length t,qha,<-hr]
    rfl
   .rfl
  .rfl
 .rfl
theorem qtz(text:qc):(∃n r,x7 n∧text=y6 n++r∧wu text=(n,r))∨((∀n r,x7 n->text≠y6 n++r)∧wu text=(0,text)):=by
 by_cases h:∃n r,x7 n∧text=y6 n++r
 .obtain⟨n,r,hg,rfl⟩:=h
  exact .inl ⟨n,r,hg,rfl,qpn hg r⟩
 .have h':∀n r,x7 n->text≠y6 n++r:=λn r hg e=>h ⟨n,r,hg,e⟩
  exact .inr ⟨h',qr0 h'⟩
def wa(n:Int):qc:=if x7 n then y6 n else []
theorem qjb(text:qc):text=wa (wu text).1++(wu text).2∧((wu text).1=0∨x7 (wu text).1):=by
 rcases qtz text with⟨n,r,hg,he,ht⟩|⟨_,ht⟩
 .rw[ht]
  simp only;unfold wa;rw[if_pos hg];exact⟨he,.inr hg⟩
 .rw[ht]
  exact⟨rfl,.inl rfl⟩
theorem q02{n:Int}(h:x7 n):(y6 n).length<=28:=by
 have:=qmd (v:=n) (by have:=h.1;omega) (by have:=h.2;omega);simp[y6,genL];omega
def begF(l:qc):Bool:=decide (l.head?=some 37∧qy l=5)
def je(n:Nat)(l:qc):Nat:=if h:l=[]then n else if begF (upto 10 l)=true then n-l.length else je n (past 10 l)
 termination_by l.length
 decreasing_by exact xp h
theorem qe8(n:Nat):je n []=n:=by rw[je,dif_pos rfl]
theorem qj9{n:Nat}{l:qc}(h:l≠[])(hb:begF (upto 10 l)=true):je n l=n-l.length:=by rw[je,dif_neg h,if_pos hb]
theorem ql1{n:Nat}{l:qc}(h:l≠[])(hb:¬begF (upto 10 l)=true):je n l=je n (past 10 l):=by
 conv=>lhs;rw[je]
 rw[dif_neg h,if_neg hb]
theorem qqj:∀(k n:Nat)(l:qc),l.length<=k->l.length<=n->n-l.length<=je n l∧je n l<=n
 |0,n,l,h,hn=>by
  have:l=[]:=Qn.1 Om;subst this;rw[qe8]
  simp
 |k+1,n,l,h,hn=>by
  by_cases hl:l=[]
  .subst hl;rw[qe8];simp
  .by_cases hb:begF (upto 10 l)=true
   .rw[qj9 hl hb]
    omega
   .have:=xp (c:=10) hl
    rw[ql1 hl hb];have:=qqj k n (past 10 l) Om Om;omega
theorem qv2:∀(k n:Nat)(l x:qc),l.length<=k->(∀p∈zp l,begF p.1=false∧p.2=true)->je n (l++x)=je n x
 |0,n,l,x,h,_=>by
  have:l=[]:=Qn.1 Om;subst this
  rfl
 |k+1,n,l,x,h,hp=>by
  by_cases hl:l=[]
  .subst hl;rfl
  .rw[wh hl]at hp
   obtain⟨h1,h2⟩:=hp _ (Zn ..);have g9:10∈l:=by simpa using h2
   have e:=wl g9
   have hu:upto 10 (l++x)=upto 10 l∧past 10 (l++x)=past 10 l++x:=by
    have e2:l++x=upto 10 l++10::(past 10 l++x):=by
     conv=>lhs;rw[e]
     simp
    rw[e2,v7 _ (yu 10 l),xv _ (yu 10 l)];exact⟨rfl,rfl⟩
   rw[ql1 (by simp[hl]) (by rw[hu.1];simp[h1]),hu.2];exact qv2 k n _ x (by have:=xp (c:=10) hl;omega) λp pb=>hp p (by simp[pb])
theorem qkj:∀(r:List (qc×Bool))(k:Nat)(prev:Bool)(now:zh)(rec:Int)(out:List zh),(refL k r prev now rec out).1=none->∀x∈r,qy x.1≠5∧x.2=true
 | [],_,_,_,_,_,_=>by simp
 |(t,e)::r,k,prev,now,rec,out,h=>by
  rw[refL]at h;split at h
  .simp at h
  .rename_i hw
   have hx:qy t≠5∧e=true:=by
    unfold ko at hw;split at hw
    .simp at hw
    .rename_i hc
     exact⟨λh5=>hc (.inl h5),by cases e with|true=>rfl|false=>exact absurd (.inr (.inr rfl)) hc⟩
   have hr:∀x∈r,qy x.1≠5∧x.2=true:=by
    split at h
    .exact qkj r _ _ _ _ _ h
    .split at h
     .exact qkj r _ _ _ _ _ h
     .exact qkj r _ _ _ _ _ h
   intro x i4;rcases Qh.1 i4 with rfl|i4
   .exact hx
   .exact hr x i4
theorem q8m{text:qc}(h:(ji text).1=none):∀x∈zp text,begF x.1=false∧x.2=true:=λx hx=>by
 rw[<-qei]at h;obtain⟨h1,h2⟩:=qkj _ _ _ _ _ _ h x hx;exact⟨by simp[begF,h1],h2⟩
theorem ql0{n:Nat}{fig l:qc}(hf:xk fig)(h:l<+:wr n fig)(b9:l≠[]):begF l=true:=by
 have g9:10∉l:=qkt h (qcq n hf)
 have h58:(58:UInt8)∉l:=qkt h λh'=>by
  unfold wr at h';rcases Qq.1 h' with h'|h'
  .revert h';decide
  .rcases Qq.1 h' with h'|h'
   .exact qfe n (by decide) h'
   .rcases Qh.1 h' with h'|h'
    .simp at h'
    .exact qq0 hf (by decide) h'
 obtain⟨c,q,rfl⟩:=Qx b9
 have hc:c=37:=by
  obtain⟨t,ht⟩:=h;unfold wr zf at ht;exact(Qz ht).1
 subst hc
 have hk:=qtk g9 (λhb=>by
  have:=hb 37 Sx;revert this
  decide)
 simp only[begF,List.head?_cons,true_and,decide_eq_true_eq];rw[hk.2];rw[if_neg Sx,if_neg (by simp[wy]),if_neg (λh=>h58 h.1)]
theorem zee{n:Nat}{fig body l:qc}(hf:xk fig)(h:l<+:recL n fig body)(b9:l≠[]):begF (upto 10 l)=true:=by
 rcases qg2 (show l<+:wr n fig++10::(body++qae n) from h)with h|⟨r,rfl,hr⟩
 .rw[xx (qkt h (qcq n hf))]
  exact ql0 hf h b9
 .cases r with
  |nil=>
   rw[Qj,xx (qcq n hf)]
   exact ql0 hf (Za _) (by simp[wr,zf])
  |cons c r=>
   have:c=10:=by obtain⟨t,ht⟩:=hr;exact(Qz ht).1
   subst this;rw[v7 _ (qcq n hf)];exact ql0 hf (Za _) (by simp[wr,zf])
theorem zlh{b:qc}(x:qc)(hg:yr b):begF (upto 10 (recF b++x))=true:=by
 rw[qnx];have hx:xk (sumF b):=qth (addP 0 b);unfold recL;rw[Ql,Zt,v7 _ (qcq _ hx)];exact ql0 hx (Za _) (by simp[wr,zf])
theorem qw6:∀(n:Nat)(l:qc)(k a:Nat),l.length<=n->∀x∈vz k a l,x.text.length<=l.length
 |n,l,k,a,hn,x,hx=>by
  by_cases h:l=[]
  .subst h;rw[qbf]at hx;simp at hx
  .have d8:=xp (c:=10) h
   cases n with
   |zero=>omega
   |succ n=>
    rw[qbm h]at hx;rcases Qh.1 hx with rfl|hx
    .exact vk 10 l
    .have:=qw6 n (past 10 l) (k+1) (a+(upto 10 l).length+1) Om x hx
     omega
theorem q24{out:List qp}{e:qp}{f:Fld}(h:out[out.length-1]?=some e):addF out f=out.set (out.length-1) ⟨e.kind,e.id,e.fields++[f]⟩:=by
 have hl:out.getLast?=some e:=by rw[Zd];exact h
 have b9:out≠[]:=λe0=>by subst e0;simp at hl
 unfold addF;rw[hl];have hd:=qs9 hl;simp only;generalize hq:out.dropLast=q at hd;subst hd;simp
theorem qsw(out:List qp)(f:Fld):(addF out f).length=out.length:=by
 unfold addF
 cases h:out.getLast? with
 |none=>rfl
 |some x=>
  have b9:out≠[]:=λe0=>by subst e0;simp at h
  have:=Qg.2 b9;simp;omega
def q2w(l:qc)(r:List qc)(o:List qp)(h:List qc):Option (List qp):=
 if [32,32]<+:l then if o=[]then none else ve r o (h++[l.drop 2])
 else match begR l with
  |none=>none
  |some (k,n)=>if 40<=o.length then none else ve r (o++[⟨k,n,[]⟩]) h
def qes(d6:List qc):List qc->Bool
 | []=>decide (d6≠[])
 |l::_=>decide (d6≠[]∧¬ [32,32,32]<+:l)
def qp8(R:List qc)(out:List qp)(d6:List qc)(o:List qp)(h:List qc):Prop:=
 if qes d6 R=true then qas out d6=some o∧h=[]else o=out∧h=d6
theorem za9{l:qc}{r:List qc}{out o:List qp}{d6 h:List qc}(e:qp8 (l::r) out d6 o h):ve (l::r) out d6=q2w l r o h∧(h=[]∨[32,32,32]<+:l):=by
 unfold qp8 at e;rw[ve];by_cases hc:d6≠[]∧¬ [32,32,32]<+:l
 .rw[if_pos (by simp[qes,hc.1,hc.2])]at e
  rw[if_pos hc,e.1,e.2];exact⟨rfl,.inl rfl⟩
 .rw[if_neg (by simpa[qes]using hc)]at e
  rw[if_neg hc,e.1,e.2];refine⟨rfl,?_⟩;by_cases h0:d6=[]
  .exact .inl h0
  .exact .inr (Classical.byContradiction λh=>hc ⟨h0,h⟩)
theorem q4s{R:List qc}{out:List qp}{d6:List qc}(h:qes d6 R=true)(hu:(zv d6).2≠0):ve R out d6=none:=by
 cases R with
 |nil=>
  have h0:d6≠[]:=of_decide_eq_true h;rw[ve];unfold qas
  rw[if_neg h0,if_neg hu]
 |cons l q=>
  obtain⟨h0,hl⟩:d6≠[]∧¬ [32,32,32]<+:l:=of_decide_eq_true h;have hf:qas out d6=none:=by unfold qas;rw[if_neg h0,if_neg hu]
  rw[ve,if_pos ⟨h0,hl⟩,hf];rfl
theorem q4t{out:List qp}{d6:List qc}(h0:d6≠[])(hu:(zv d6).2=0):qas out d6=some (addF out (zv d6).1):=by
 unfold qas;rw[if_neg h0,if_pos hu]
def qkp(l:qc):Nat->Option (Int×Int)
 |0=>none
 |j+1=>tryR l (qkp l j) ((j:Int)+1)
theorem q9a(l:qc):qkp l 3=begR l:=rfl
end Go.Pl
namespace Go.Proofs.YtihlchbgjdkmpaaGreatDoor
open Go Go.Av Go.RowKit Go.Proofs Go.Pl
theorem q6m(x:Option (List qp)):Pure (qdo x):=by
 rcases x with _|b
 .exact kc (qc6 _) (qt _)
 .exact kc (qc6 _) (qt _)
theorem q6g(l w:qc)(b:Bool)(h:decide (w<+:l)=b)(st:List AObj):qr E 187 [Sv l,Sv w] st λr st'=>r=Bv b∧st'=st:=h▸qnb l w st
def qn5(l:qc)(j:Nat)(a b:Int):Prop:=(a=0∧b=0∧qkp l j=none)∨(1<=a∧qkp l j=some (a,b))
set_option maxHeartbeats 8000000 in
theorem q8r(text:qc)(st:List AObj)(hl:text.length<1000000):qr E 130 [Sv text] st λr st'=>r=qdo (decF text)∧st'=st:=by
 refine zj [.s text] (q6m _) Tryz.func130 rfl rfl (λ_=>rfl) rfl λS0=>?_;rw[<-zf9];by_cases u0:50000<text.length
 .have hd:qdp text=none:=if_pos u0
  rw[hd];unfold qdo;apply qf [];repeat' (first|apply Qa|(intro h;try exact cDd)|exact cSd|apply qd []|refine exr ?_|refine qg ?_)
 have m9:qdp text=match ve ((lns text).map λx=>x.text) [] []with
  |none=>none
  |some b=>if eErr b=.no∧encF b=text then some b else none:=if_neg u0
 have r8:=λst=>qkk text st Om;have hlm:((lns text).map lnA).length=(lns text).length:=Sx
 have hln:(lns text).length<=text.length:=qdu _ text 0 0 (Qe _);have lj:=qw6 _ text 0 0 (Qe _);have d8:∀x∈lns text,x.text.length<=text.length:=lj;have h0i:Lib.itoa 0=[48]:=by rw[qgg (by decide),Lib.decDigits_one (by decide)];rfl
 generalize lns text=L at *;clear lj;apply qf [];repeat' (first|apply Qa|(intro h;try exact cDd)|exact⟨Tryz.call126⟩|refine cpe r8 ?_|exact cSd|apply qd []|refine exr ?_|refine qg ?_)
 refine zx (X:=Nat×List qp×List qc) (λ(k,out,d6)=>⟨[(0,.s text),(4,.tp 0),(5,.tp 1),(6,.a (lnsA L)),(7,.i k)],[(0,some (.own 3 81 (out.map zz))),(1,some (.tip 1 9 (d6.map λx=>Sv x)))],2⟩)
  (λ(k,out,d6)=>OutG out k∧out.length<=40∧d6.length<=k∧k<=L.length+1∧(d6≠[]->out≠[])∧(∀s∈d6,s.length<1000000)∧
   ((k<=L.length∧ve ((L.map λx=>x.text).drop k) out d6=ve (L.map λx=>x.text) [] [])∨(k=L.length+1∧ve (L.map λx=>x.text) [] []=some out)))
  (λ(k,out,d6)=>L.length+1-k) (0,[],[]) ⟨by intro x hx;simp at hx,Sx,Sx,Om,Sx,Sx,.inl ⟨Om,rfl⟩⟩ ?_ ?_
 .skip
  repeat' (first|apply Qa|(intro h;try exact cDd)|exact cSd|apply qd []|refine exr ?_|refine qg ?_)
  all_goals (simp;done)
 .rintro⟨k,out,d6⟩ ⟨hG,h40,hh,hk,b9,hhb,hR⟩
  have hmo:(out.map zz).length=out.length:=Sx
  have hmh:(d6.map λx=>Sv x).length=d6.length:=Sx
  rcases hR with⟨hk,hR⟩|⟨rfl,hR⟩
  .have u7:=λst=>qlk d6 st ⟨Om,hhb⟩
   unfold qcw at u7;by_cases e9:k=L.length
   ·-- the end: what is d6 is flushed
    rw[e9,List.drop_of_length_le Sx]at hR;by_cases h0:d6=[]
    .subst h0
     rw[ve]at hR;unfold qas at hR;rw[if_pos rfl]at hR;apply qf [];repeat' (first|apply Qa|(intro h;try exact cDd)|(refine Qb (k+1,out,[]) ⟨⟨hG.mono Om,h40,Sx,Om,Sx,Sx,.inr ⟨Om,hR.symm⟩⟩,by simp only;omega,?_⟩)|exact cSd|apply qd []|refine exr ?_|refine qg ?_)
     all_goals (simp;done)
    .have hz:0<d6.length:=Qg.2 h0
     have hop:0<out.length:=Qg.2 (b9 h0);by_cases hu:(zv d6).2=0
     .have hgf:=qjc hu
      rw[ve,q4t h0 hu]at hR;rw[hu]at u7;generalize(zv d6).1=f at hgf u7 hR;obtain⟨e,he⟩:∃e,out[out.length-1]?=some e:=⟨_,Qc Om⟩;have heA:(out.map zz)[out.length-1]?=some (zz e):=by simp[he]
      have hef:=(hG e (Qm he)).2.1;have hmf:(e.fields.map fldA).length=e.fields.length:=Sx
      have t8:=q24 (f:=f) he;have hal:=qsw out f;obtain⟨fk,fv⟩:=f;apply qf [];repeat' (first|apply Qa|(intro h;try exact cDd)|exact⟨Tryz.call179⟩|refine cpe u7 ?_|(refine qgh (i:=out.length-1) rfl rfl rfl (congrArg (λx=>some (IntKind.i64,x)) Om) rfl rfl Om ?_)|(refine qif (i:=out.length-1) (j:=2) rfl rfl rfl rfl heA rfl rfl ?_)|(refine qo5 (i:=out.length-1) (j:=2) (z:=zz e) (z':=.ag [Iv e.kind,Iv e.id,.sl 2 (e.fields.map fldA++[fldA (fk,fv)]) none]) (u:=.sl 2 (e.fields.map fldA++[fldA (fk,fv)]) none) rfl rfl rfl rfl rfl rfl heA rfl rfl ?_)|(refine Qb (k+1,addF out (fk,fv),[]) ⟨⟨q23 hG hgf,Om,Sx,Om,Sx,Sx,.inr ⟨Om,hR.symm⟩⟩,by simp only;omega,?_⟩)|exact cSd|apply qd []|refine exr ?_|refine qg ?_)
      all_goals first|(simp;done)|(rw[t8,Zo];simp[zz,jl,Zg];done)
     .have hnn:qdp text=none:=by
       rw[m9,<-hR,ve];unfold qas;rw[if_neg h0,if_neg hu]
      rw[hnn];unfold qdo;generalize(zv d6).2=n at u7 hu;generalize(zv d6).1=f at u7;obtain⟨fk,fv⟩:=f;apply qf [];repeat' (first|apply Qa|(intro h;try exact cDd)|exact⟨Tryz.call179⟩|refine cpe u7 ?_|exact cSd|apply qd []|refine exr ?_|refine qg ?_)
   ·-- a line
    obtain⟨x,hx⟩:∃x,L[k]?=some x:=⟨_,Qc Om⟩;have i3:(L.map lnA)[k]?=some (lnA x):=by simp[hx]
    have hxl:=d8 x (Qm hx)
    have hdr:(L.map λx=>x.text).drop k=x.text::(L.map λx=>x.text).drop (k+1):=by
     rw[Qf So];obtain⟨_,h⟩:=Qy.1 hx;simp[h]
    rw[hdr]at hR;have gb:=λst=>qnb x.text [32,32,32] st;have t6:=λst=>qnb x.text [32,32] st;have gn:[32,32,32]<+:x.text->[32,32]<+:x.text:=λ⟨q,hq⟩=>⟨[32]++q,by rw[<-hq];rfl⟩
    have hmain:qdp text=none∧(d6≠[]∧¬ [32,32,32]<+:x.text∧(zv d6).2≠0)∨∃(o:List qp)(h:List qc),(q2w x.text ((L.map λx=>x.text).drop (k+1)) o h=ve (L.map λx=>x.text) [] []∧(h=[]∨[32,32,32]<+:x.text))∧OutG o (k+1)∧o.length<=40∧h.length<=k∧(h≠[]->o≠[])∧(∀s∈h,s.length<1000000)∧
      ((o=out∧h=d6∧d6=[])∨(o=out∧h=d6∧0<d6.length∧[32,32,32]<+:x.text)∨(h=[]∧0<d6.length∧¬ [32,32,32]<+:x.text∧∃(e:qp)(fk fv:qc),(out.map zz)[out.length-1]?=some (zz e)∧e.fields.length<=k∧o=out.set (out.length-1) ⟨e.kind,e.id,e.fields++[(fk,fv)]⟩∧0<out.length∧∀st,qr E 179 [Ss d6] st λr st'=>r=.tu [fldA (fk,fv),Iv 0]∧st'=st)):=by
     have step:∀(o:List qp)(h:List qc),qp8 (x.text::(L.map λx=>x.text).drop (k+1)) out d6 o h->q2w x.text ((L.map λx=>x.text).drop (k+1)) o h=ve (L.map λx=>x.text) [] []∧(h=[]∨[32,32,32]<+:x.text):=λo h e=>by
      obtain⟨g1,g2⟩:=za9 e;exact⟨by rw[<-g1,hR],g2⟩
     by_cases o7:d6≠[]∧¬ [32,32,32]<+:x.text
     .have hf:qes d6 (x.text::(L.map λx=>x.text).drop (k+1))=true:=by simp[qes,o7.1,o7.2]
      by_cases hu:(zv d6).2=0
      .have hop:0<out.length:=Qg.2 (b9 o7.1)
       have hfo:=q4t (out:=out) o7.1 hu;have hgf:=qjc hu;rw[hu]at u7;obtain⟨e,he⟩:∃e,out[out.length-1]?=some e:=⟨_,Qc Om⟩;refine .inr ⟨addF out (zv d6).1,[],step _ _ ?_,q23 hG hgf,by rw[qsw];exact h40,Sx,Sx,Sx,.inr (.inr ⟨rfl,Qg.2 o7.1,o7.2,e,_,_,by simp[he],(hG e (Qm he)).2.1,q24 he,hop,u7⟩)⟩;unfold qp8;rw[if_pos hf];exact⟨hfo,rfl⟩
      .exact .inl ⟨by rw[m9,<-hR,q4s hf hu],o7.1,o7.2,hu⟩
     .have hf:¬qes d6 (x.text::(L.map λx=>x.text).drop (k+1))=true:=by simpa[qes]using o7
      refine .inr ⟨out,d6,step _ _ ?_,hG.mono Om,h40,hh,b9,hhb,?_⟩
      .unfold qp8
       rw[if_neg hf];exact⟨rfl,rfl⟩
      .by_cases h0:d6=[]
       .exact .inl ⟨rfl,rfl,h0⟩
       .exact .inr (.inl ⟨rfl,rfl,Qg.2 h0,Classical.byContradiction λh=>o7 ⟨h0,h⟩⟩)
    rcases hmain with⟨hnn,h0,rq,hu⟩|⟨o,h,⟨e8,hh0⟩,hG',h40',hh',hne',hhb',gc⟩
    .have hz:0<d6.length:=Qg.2 h0
     rw[decide_eq_false rq]at gb;rw[hnn];unfold qdo;generalize(zv d6).2=n at u7 hu;generalize(zv d6).1=f at u7;obtain⟨fk,fv⟩:=f;apply qf [];repeat' (first|apply Qa|(intro h;try exact cDd)|(refine Qb (k) ⟨Om,_,i3,?_⟩)|exact⟨Tryz.call187⟩|refine cpe gb ?_|exact⟨Tryz.call179⟩|refine cpe u7 ?_|exact cSd|apply qd []|refine exr ?_|refine qg ?_)
    clear hR hG h40 hh b9 hhb;unfold q2w at e8;have hmo':(o.map zz).length=o.length:=Sx
    have hmh':(h.map λx=>Sv x).length=h.length:=Sx
    by_cases h2:[32,32]<+:x.text
    .have h2l:2<=x.text.length:=h2.length_le
     rw[decide_eq_true h2]at t6;rw[if_pos h2]at e8;by_cases ho:o=[]
     .rw[if_pos ho]at e8
      have hnn:qdp text=none:=by rw[m9,<-e8]
      rw[hnn];unfold qdo;rcases gc with⟨rfl,rfl,h0⟩|⟨rfl,rfl,h0,rq⟩|⟨_,_,_,_,_,_,_,_,e,h0,_⟩
      .have hz:h.length=0:=by simp[h0]
       have hz2:o.length=0:=by simp[ho]
       apply qf [];repeat' (first|apply Qa|(intro h;try exact cDd)|(refine Qb (k) ⟨Om,_,i3,?_⟩)|exact⟨Tryz.call187⟩|refine cpe t6 ?_|exact cSd|apply qd []|refine exr ?_|refine qg ?_)
      .have hz2:o.length=0:=by simp[ho]
       rw[decide_eq_true rq]at gb;apply qf [];repeat' (first|apply Qa|(intro h;try exact cDd)|(refine Qb (k) ⟨Om,_,i3,?_⟩)|exact⟨Tryz.call187⟩|refine cpe gb ?_|exact⟨Tryz.call187⟩|refine cpe t6 ?_|exact cSd|apply qd []|refine exr ?_|refine qg ?_)
      .exact absurd (congrArg Qo (ho.symm.trans e)) So
     .rw[if_neg ho]at e8
      have hz2:0<o.length:=Qg.2 ho
      have hhs:∀s∈h++[x.text.drop 2],s.length<1000000:=λs hs=>by
       rcases Qq.1 hs with hs|hs
       .exact hhb' s hs
       .obtain rfl:=Zb.1 hs
        rw[List.length_drop];omega
      obtain⟨hn,hhn⟩:∃hn,hn=h++[x.text.drop 2]:=⟨_,rfl⟩;have pk:hn.length<=k+1:=by rw[hhn];simp;omega
      rw[<-hhn]at e8 hhs;rcases gc with⟨rfl,rfl,h0⟩|⟨rfl,rfl,h0,rq⟩|⟨rfl,h0,rq,e,fk,fv,heA,hef,t8,hop,hun'⟩
      case' neg.inl=>have hz:h.length=0:=by simp[h0]
      case' neg.inr.inl=>rw[decide_eq_true rq]at gb
      case' neg.inr.inr=>
       rw[decide_eq_false rq]at gb;have hmf:(e.fields.map fldA).length=e.fields.length:=Sx
       have mw:out.length=o.length:=by rw[t8,Zv]
       have gp:((out.map zz).set (out.length-1) (.ag [Iv e.kind,Iv e.id,.sl 2 (e.fields.map fldA++[fldA (fk,fv)]) none])).length=o.length:=by simp[mw]
      all_goals
       apply qf [];repeat' (first|apply Qa|(intro h;try exact cDd)|(refine Qb (k) ⟨Om,_,i3,?_⟩)|exact⟨Tryz.call187⟩|refine cpe gb ?_|exact⟨Tryz.call187⟩|refine cpe t6 ?_|exact⟨Tryz.call179⟩|refine cpe hun' ?_|(refine qgh (i:=out.length-1) rfl rfl rfl (congrArg (λx=>some (IntKind.i64,x)) Om) rfl rfl Om ?_)|(refine qif (i:=out.length-1) (j:=2) rfl rfl rfl rfl heA rfl rfl ?_)|(refine qo5 (i:=out.length-1) (j:=2) (z:=zz e) (z':=.ag [Iv e.kind,Iv e.id,.sl 2 (e.fields.map fldA++[fldA (fk,fv)]) none]) (u:=.sl 2 (e.fields.map fldA++[fldA (fk,fv)]) none) rfl rfl rfl rfl rfl rfl heA rfl rfl ?_)|(refine Qb (k+1,o,hn) ⟨⟨hG',h40',pk,Om,λ_=>ho,hhs,.inl ⟨Om,e8⟩⟩,by simp only;omega,?_⟩)|exact cSd|apply qd []|refine exr ?_|refine qg ?_)
       all_goals first|(simp[hhn];done)|(rw[t8,Zo];simp[zz,jl,Zg];done)
    .rw[decide_eq_false h2]at t6
     rw[if_neg h2]at e8;obtain rfl:h=[]:=hh0.resolve_right λq=>h2 (gn q);rcases gc with⟨rfl,rfl,h0⟩|⟨_,_,_,rq⟩|⟨_,h0,rq,e,fk,fv,heA,hef,t8,hop,hun'⟩
     case neg.inr.inl=>exact absurd (gn rq) h2
     case' neg.inr.inr=>
      rw[decide_eq_false rq]at gb;have hmf:(e.fields.map fldA).length=e.fields.length:=Sx
      have mw:out.length=o.length:=by rw[t8,Zv]
      have gp:((out.map zz).set (out.length-1) (.ag [Iv e.kind,Iv e.id,.sl 2 (e.fields.map fldA++[fldA (fk,fv)]) none])).length=o.length:=by simp[mw]
     all_goals
      apply qf [];repeat' (first|apply Qa|(intro h;try exact cDd)|(refine Qb (k) ⟨Om,_,i3,?_⟩)|exact⟨Tryz.call187⟩|refine cpe gb ?_|exact⟨Tryz.call187⟩|refine cpe t6 ?_|exact⟨Tryz.call179⟩|refine cpe hun' ?_|(refine qgh (i:=out.length-1) rfl rfl rfl (congrArg (λx=>some (IntKind.i64,x)) Om) rfl rfl Om ?_)|(refine qif (i:=out.length-1) (j:=2) rfl rfl rfl rfl heA rfl rfl ?_)|(refine qo5 (i:=out.length-1) (j:=2) (z:=zz e) (z':=.ag [Iv e.kind,Iv e.id,.sl 2 (e.fields.map fldA++[fldA (fk,fv)]) none]) (u:=.sl 2 (e.fields.map fldA++[fldA (fk,fv)]) none) rfl rfl rfl rfl rfl rfl heA rfl rfl ?_)|exact cSd|apply qd []|refine exr ?_|refine qg ?_)
      refine zx (X:=Nat×Int×Int) (λ(j,a,b)=>⟨[(0,.s text),(4,.tp 0),(5,.tp 1),(6,.a (lnsA L)),(7,.i k),(11,.s x.text),(12,.bx 2 0),(13,.i ((j:Int)+1))],[(0,some (.own 3 81 (o.map zz))),(1,some (.tip 1 9 [])),(2,some (.cells 81 [.i a,.i b,.a zn]))],3⟩)
       (λ(j,a,b)=>j<=3∧qn5 x.text j a b) (λ(j,_,_)=>3-j) (0,0,0) ⟨Om,.inl ⟨rfl,rfl,rfl⟩⟩ ?_ ?_
      .skip
       repeat' (first|apply Qa|(intro h;try exact cDd)|exact cSd|apply qd []|refine exr ?_|refine qg ?_)
       all_goals first|(simp;done)|(rw[t8,Zo];simp[zz,jl,Zg];done)
      .rintro⟨j,a,b⟩ ⟨hj,hta⟩
       by_cases hj3:j=3
       .subst hj3
        unfold qn5 at hta;rw[q9a]at hta;rcases hta with⟨rfl,rfl,hb⟩|⟨ha,hb⟩
        .rw[hb]at e8
         have hnn:qdp text=none:=by rw[m9,<-e8]
         rw[hnn];unfold qdo;apply qf [];repeat' (first|apply Qa|(intro h;try exact cDd)|exact cSd|apply qd []|refine exr ?_|refine qg ?_)
        .rw[hb]at e8
         simp only at e8;by_cases h40o:40<=o.length
         .rw[if_pos h40o]at e8
          have hnn:qdp text=none:=by rw[m9,<-e8]
          rw[hnn];unfold qdo;apply qf [];repeat' (first|apply Qa|(intro h;try exact cDd)|exact cSd|apply qd []|refine exr ?_|refine qg ?_)
         .rw[if_neg h40o]at e8
          have rx:OutG (o++[⟨a,b,[]⟩]) (k+1):=λy hy=>by
           rcases Qq.1 hy with hy|hy
           .exact hG' y hy
           .obtain rfl:=Zb.1 hy
            exact⟨Sx,Sx,zec hb⟩
          apply qf [];repeat' (first|apply Qa|(intro h;try exact cDd)|(refine zcr (ys:=[zz ⟨a,b,[]⟩]) rfl rfl rfl rfl rfl rfl rfl rfl So rfl ?_)|(refine Qb (k+1,o++[⟨a,b,[]⟩],[]) ⟨⟨rx,So,Sx,Om,Sx,Sx,.inl ⟨Om,e8⟩⟩,by simp only;omega,?_⟩)|exact cSd|apply qd []|refine exr ?_|refine qg ?_)
          all_goals (simp;done)
       .obtain⟨H,hH⟩:∃H,H=qab ((j:Int)+1):=⟨_,rfl⟩
        have hj012:j=0∨j=1∨j=2:=Om
        have hHl:H.length<=9:=by
         rw[hH];rcases hj012 with rfl|rfl|rfl <;>decide
        have hli:∀st,qr E 89 [zz ⟨(j:Int)+1,0,[]⟩] st λr st'=>r=Sv (H++[48])∧st'=st:=λst=>by
         have:=q1p ⟨(j:Int)+1,0,[]⟩ st Sx Sx;unfold km at this;rw[if_pos (by constructor <;>simp only <;>omega),h0i,<-hH]at this;exact this
        have i6:(H++[48]).take H.length=H:=Zk;have tq:qkp x.text (j+1)=tryR x.text (qkp x.text j) ((j:Int)+1):=rfl;unfold tryR at tq;rw[<-hH]at tq
        have tv:(if H<+:x.text then match numZ (x.text.drop H.length)with
         |some n=>some ((j:Int)+1,n)
         |none=>qkp x.text j else qkp x.text j)=qkp x.text (j+1):=tq.symm
        by_cases hp:H<+:x.text
        .rw[if_pos hp]at tv
         have fj:=hp.length_le;have hbH:=λst=>q6g x.text ((H++[48]).take H.length) true (by rw[i6];exact decide_eq_true hp) st
         cases hz:numZ (x.text.drop H.length)with
         |none=>
          rw[hz]at tv;have hnu:∀st,qr E 175 [Sv (x.text.drop H.length)] st λr st'=>r=.tu [Iv 0,Bv false]∧st'=st:=λst=>qhz _ st So hz;have hta':qn5 x.text (j+1) a b:=by unfold qn5 at hta⊢;rw[<-tv];exact hta
          apply qf [];repeat' (first|apply Qa|(intro h;try exact cDd)|exact⟨Tryz.call89⟩|refine cpe hli ?_|(refine Qb H.length ⟨Sx,?_⟩)|exact⟨Tryz.call187⟩|refine cpe hbH ?_|exact⟨Tryz.call175⟩|refine cpe hnu ?_|(refine Qb (j+1,a,b) ⟨⟨Om,hta'⟩,by simp only;omega,?_⟩)|exact cSd|apply qd []|refine exr ?_|refine qg ?_)
          all_goals first|(simp[i6];done)|(simp[i6];omega)|omega
         |some n=>
          rw[hz]at tv;have hnu:∀st,qr E 175 [Sv (x.text.drop H.length)] st λr st'=>r=.tu [Iv n,Bv true]∧st'=st:=λst=>qe0 _ n st So hz;have hta':qn5 x.text (j+1) ((j:Int)+1) n:=.inr ⟨Om,tv.symm⟩;apply qf [];repeat' (first|apply Qa|(intro h;try exact cDd)|exact⟨Tryz.call89⟩|refine cpe hli ?_|(refine Qb H.length ⟨Sx,?_⟩)|exact⟨Tryz.call187⟩|refine cpe hbH ?_|exact⟨Tryz.call175⟩|refine cpe hnu ?_|(refine Qb (j+1,(j:Int)+1,n) ⟨⟨Om,hta'⟩,by simp only;omega,?_⟩)|exact cSd|apply qd []|refine exr ?_|refine qg ?_)
          all_goals first|(simp[i6];done)|(simp[i6];omega)|omega
        .rw[if_neg hp]at tv
         have hbH:=λst=>q6g x.text ((H++[48]).take H.length) false (by rw[i6];exact decide_eq_false hp) st;have hta':qn5 x.text (j+1) a b:=by unfold qn5 at hta⊢;rw[<-tv];exact hta
         apply qf [];repeat' (first|apply Qa|(intro h;try exact cDd)|exact⟨Tryz.call89⟩|refine cpe hli ?_|(refine Qb H.length ⟨Sx,?_⟩)|exact⟨Tryz.call187⟩|refine cpe hbH ?_|(refine Qb (j+1,a,b) ⟨⟨Om,hta'⟩,by simp only;omega,?_⟩)|exact cSd|apply qd []|refine exr ?_|refine qg ?_)
         all_goals first|(simp[i6];done)|(simp[i6];omega)|omega
  .have hB:=zft hG Om
   rw[hR]at m9;simp only at m9;have bf:=λst=>qro out st hB Om;by_cases he:eErr out=.no
   .have bg:=λst=>qp5 out st hB he
    rw[he]at bf;by_cases ht:encF out=text
    .rw[if_pos ⟨he,ht⟩]at m9
     rw[m9];rw[ht]at bg;refine qza 4 rfl rfl ?_;apply qf [];repeat' (first|apply Qa|(intro h;try exact cDd)|exact⟨Tryz.call83⟩|refine cpe bf ?_|exact⟨Tryz.call49⟩|refine cpe bg ?_|exact cSd|apply qd []|refine exr ?_|refine qg ?_)
    .rw[if_neg (λh=>ht h.2)]at m9
     rw[m9];unfold qdo;refine qza 4 rfl rfl ?_;apply qf [];repeat' (first|apply Qa|(intro h;try exact cDd)|exact⟨Tryz.call83⟩|refine cpe bf ?_|exact⟨Tryz.call49⟩|refine cpe bg ?_|exact absurd ht (by assumption)|exact cSd|apply qd []|refine exr ?_|refine qg ?_)
   .rw[if_neg (λh=>he h.1)]at m9
    rw[m9];have h0:¬(eErr out).code=0:=λh=>he ((qep out).1 h);generalize(eErr out).code=c at bf h0;generalize(eErr out).pos=c2 at bf;unfold qdo;refine qza 4 rfl rfl ?_;apply qf [];repeat' (first|apply Qa|(intro h;try exact cDd)|exact⟨Tryz.call83⟩|refine cpe bf ?_|exact cSd|apply qd []|refine exr ?_|refine qg ?_)
end Go.Proofs.YtihlchbgjdkmpaaGreatDoor
namespace Go.Pl
open Go Go.Proofs Go.Proofs.YtihlchbgjdkmpaaGreatDoor
structure j5 where
 gen:Int
 base:qc
 batches:List (List qp)
 ends : List Int
 tail:qc
def qao:j5:=⟨0,[],[],[],[]⟩
def jw(text:qc):ErrV:=if 60000<text.length then .num 1 else match(ji text).1 with
 |none=>.no
 |some (a,n)=>.at' a n
def recsF:Nat->qc->Int->List (List qp)->List Int->Bool×List (List qp)×List Int×qc
 |0,l,_,bs,es=>(false,bs,es,l)
 |f+1,l,a,bs,es=>
  if(zi l).1=2 then(false,bs,es,l)
  else if(zi l).1=1 then match decF (zi l).2.1 with
   |some b=>recsF f (l.drop (zi l).2.2.toNat) (a+(zi l).2.2) (bs++[b]) (es++[a+(zi l).2.2])
   |none=>(true,bs,es,l)
  else(true,bs,es,l)
def qcy(text:qc):qc:=(wu text).2
def atH(text:qc):Nat:=je (qcy text).length (qcy text)
def qhm(text:qc):qc:=(qcy text).take (atH text)
def qd5(text:qc):Bool×List (List qp)×List Int×qc:=recsF (text.length+1) ((qcy text).drop (atH text)) (((text.length-(qcy text).length+atH text:Nat)):Int) [] []
def jj(text:qc):ErrV×j5:=
 if 120000<text.length then(.num 1,qao)
 else match jw (qhm text)with
  |.no=>if(qd5 text).1=true then(.at' (qd5 text).2.1.length 10,qao)else(.no,⟨(wu text).1,qhm text,(qd5 text).2.1,(qd5 text).2.2.1,(qd5 text).2.2.2⟩)
  |e=>(e,qao)
structure qe3 (b:List qp):Prop where
 ok:eErr b=.no
 B:∀x∈b,EdB x
 len:(encF b).length<=50000
theorem qe3.dec{b:List qp}(h:qe3 b):decF (encF b)=some b:=q9n h.ok h.B h.len
theorem qe3.good{b:List qp}(h:qe3 b):yr (encF b):=zes h.ok h.B h.len
theorem ziq{t:qc}{b:List qp}(h:decF t=some b):qe3 b∧encF b=t:=by
 obtain⟨h1,h2,h3⟩:=q36 h;exact⟨⟨h1,zen h,by rw[h2];exact h3⟩,h2⟩
def recE(b:List qp):qc:=recF (encF b)
def vj(bs:List (List qp)):qc:=bs.flatMap recE
def qap(a:Int):List (List qp)->List Int
 | []=>[]
 |b::r=>(a+(recE b).length)::qap (a+(recE b).length) r
theorem qa4(b:List qp)(r:List (List qp)):vj (b::r)=recE b++vj r:=rfl
theorem qpf(r:List (List qp))(b:List qp):vj (r++[b])=vj r++recE b:=by simp[vj]
theorem qwn:∀(r:List (List qp))(a:Int)(b:List qp),qap a (r++[b])=qap a r++[a+(vj r).length+(recE b).length]
 | [],a,b=>by simp[qap,vj]
 |x::r,a,b=>by
  rw[Zt,qap,qap,qwn r,qa4];simp;omega
theorem qk3:∀(r:List (List qp))(a:Int),(qap a r).length=r.length
 | [],_=>rfl
 |x::r,a=>by rw[qap];simp[qk3 r]
theorem qwm:∀(r:List (List qp))(a:Int),r≠[]->(qap a r).getLast?=some (a+(vj r).length)
 | [],_,h=>absurd rfl h
 | [x],a,_=>by simp[qap,vj]
 |x::y::r,a,_=>by
  have:=qwm (y::r) (a+(recE x).length) Sx;rw[qap,Zp];rw[this,qa4 x];simp;omega
theorem qu0(b:List qp):0<(recE b).length:=by
 unfold recE;rw[qnx];simp[recL,wr,zf]
theorem q6e:∀(bs:List (List qp))(f:Nat)(t:qc)(a:Int)(xs:List (List qp))(es:List Int),(∀b∈bs,qe3 b)->(zi t).1=2->bs.length<f->
  recsF f (vj bs++t) a xs es=(false,xs++bs,es++qap a bs,t)
 | [],f+1,t,a,xs,es,_,ht,_=>by
  rw[recsF];simp only[vj,List.flatMap_nil,Zh,qap,Qj]
  rw[if_pos ht]
 |b::r,f+1,t,a,xs,es,h,ht,hf=>by
  have hb:=h b Sx
  have p7:zi (vj (b::r)++t)=(1,encF b,((recE b).length:Int)):=by
   rw[qa4,Ql];exact zjx _ hb.good
  have hdr:(vj (b::r)++t).drop (recE b).length=vj r++t:=by
   rw[qa4,Ql,Qi]
  rw[recsF,p7];simp only;rw[if_neg (by decide),if_pos trivial,hb.dec];simp only[Qr];rw[hdr,q6e r f t _ _ _ (λx hx=>h x (by simp[hx])) ht (by simp at hf;omega)];simp[qap]
theorem q6d:∀(f:Nat)(l:qc)(a:Int)(xs xs':List (List qp))(es es':List Int)(t:qc),l.length<f->recsF f l a xs es=(false,xs',es',t)->
  ∃bs,l=vj bs++t∧xs'=xs++bs∧es'=es++qap a bs∧(∀b∈bs,qe3 b)∧(zi t).1=2
 |0,l,a,xs,xs',es,es',t,hl,h=>absurd hl Om
 |f+1,l,a,xs,xs',es,es',t,hl,h=>by
  rw[recsF]at h;split at h
  .rename_i h2
   simp only[Zc,true_and]at h;obtain⟨rfl,rfl,rfl⟩:=h;exact⟨[],by simp[vj],Sx,by simp[qap],Sx,h2⟩
  .split at h
   .rename_i h1
    split at h
    .rename_i b hd
     obtain⟨hg,he⟩:=ziq hd;have p7:zi l=(1,(zi l).2.1,(zi l).2.2):=by rw[<-h1]
     obtain⟨_,m,hm,hn⟩:=qxk p7;rw[<-he]at hm hn;have hm':l=recE b++m:=hm;have nw:(zi l).2.2=((recE b).length:Int):=hn;have cz:=qu0 b;have d5:l.length=(recE b).length+m.length:=by rw[hm'];simp
     have hdr:l.drop (recE b).length=m:=by
      conv=>lhs;rw[hm']
      rw[Qi]
     rw[nw,Qr,hdr]at h;obtain⟨bs,e1,e2,e3,e4,e5⟩:=q6d f m _ _ _ _ _ _ Om h;refine⟨b::bs,?_,by rw[e2];simp,by rw[e3];simp[qap],?_,e5⟩
     .rw[qa4,Ql,<-e1]
      exact hm'
     .intro x hx
      rcases Qh.1 hx with rfl|hx
      .exact hg
      .exact e4 x hx
    .simp at h
   .simp at h
structure xy (text:qc) (b:j5):Prop where
 txt:text=wa b.gen++(b.base++(vj b.batches++b.tail))
 gen:wu text=(b.gen,b.base++(vj b.batches++b.tail))
 parse:jw b.base=.no
 good:∀x∈b.batches,qe3 x
 tail:(zi b.tail).1=2
 ends : b.ends = qap ((wa b.gen).length + b.base.length) b.batches
 len:text.length<=120000
def BegP(x:qc):Prop:=x=[]∨begF (upto 10 x)=true
theorem zeb{t:qc}(h:(zi t).1=2):BegP t:=by
 by_cases h0:t=[]
 .exact .inl h0
 .obtain⟨n,fig,body,R,hp,_⟩:=zmn h
  obtain⟨_,_,_,_,_,hx⟩:=R;exact .inr (zee hx hp h0)
theorem qz3{bs:List (List qp)}{t:qc}(hg:∀b∈bs,qe3 b)(h:(zi t).1=2):BegP (vj bs++t):=by
 cases bs with
 |nil=>exact zeb h
 |cons b r=>
  refine .inr ?_;rw[qa4,Ql];exact zlh _ (hg b Sx).good
theorem zea{x:qc}(h:BegP x):x=[]∨x.head?=some 37:=by
 rcases h with h|h
 .exact .inl h
 .simp only[begF,decide_eq_true_eq]at h
  cases x with
  |nil=>exact .inl rfl
  |cons c r=>
   refine .inr ?_;have h1:=h.1;unfold upto at h1;by_cases hc:c=10
   .subst hc;simp at h1
   .simpa[hc]using h1
theorem qri{l:qc}(h:jw l=.no):(∀p∈zp l,begF p.1=false∧p.2=true)∧l.length<=60000:=by
 unfold jw at h;split at h
 .simp at h
 .split at h
  .rename_i hp
   exact⟨q8m hp,Om⟩
  .simp at h
theorem zbq{l x:qc}(h:jw l=.no)(hx:BegP x):je (l++x).length (l++x)=l.length:=by
 rw[qv2 _ _ l x (Qe _) (qri h).1];rcases hx with rfl|hx
 .rw[qe8];simp
 .by_cases h0:x=[]
  .subst h0;rw[qe8];simp
  .rw[qj9 h0 hx]
   simp
theorem q9h{text:qc}{b:j5}(h:xy text b):jj text=(.no,b):=by
 have hr:qcy text=b.base++(vj b.batches++b.tail):=by unfold qcy;rw[h.gen]
 have ha:atH text=b.base.length:=by
  unfold atH;rw[hr];exact zbq h.parse (qz3 h.good h.tail)
 have hb:qhm text=b.base:=by
  unfold qhm;rw[ha,hr,Zk]
 have hl:text.length-(qcy text).length=(wa b.gen).length:=by
  rw[hr]
  conv=>lhs;rw[h.txt]
  simp
 have hc:qd5 text=(false,b.batches,b.ends,b.tail):=by
  unfold qd5;rw[hl,ha,hr,Qi,q6e b.batches _ b.tail _ _ _ h.good h.tail]
  .rw[h.ends]
   simp
  .have:∀bs:List (List qp),bs.length<=(vj bs).length:=λbs=>by
    induction bs with
    |nil=>simp
    |cons x r ih=>
     have:=qu0 x;rw[qa4];simp;omega
   have:=this b.batches;rw[h.txt];simp;omega
 have d5:=h.len;unfold jj;rw[if_neg Om,hb,h.parse,hc,h.gen];simp
theorem qkz{text:qc}{b:j5}(h:jj text=(.no,b)):xy text b:=by
 unfold jj at h;split at h
 .simp at h
 .rename_i d5
  split at h
  .rename_i hp
   split at h
   .simp at h
   .rename_i hc
    simp only[Zc,true_and]at h;subst h;have hs:=qjb text;have d7:atH text<=(qcy text).length:=(qqj _ _ _ (Qe _) (Qe _)).2
    have dj:(qcy text).length<=text.length:=by
     conv=>rhs;rw[hs.1]
     unfold qcy;simp
    have hhl:text.length-(qcy text).length=(wa (wu text).1).length:=by
     have:text.length=(wa (wu text).1).length+(qcy text).length:=by
      conv=>lhs;rw[hs.1]
      unfold qcy;simp
     omega
    have hq:qd5 text=(false,(qd5 text).2.1,(qd5 text).2.2.1,(qd5 text).2.2.2):=by
     have:(qd5 text).1=false:=by simpa using hc
     rw[<-this]
    obtain⟨bs,e1,e2,e3,e4,e5⟩:=q6d _ _ _ _ _ _ _ _ So (show recsF (text.length+1) _ _ _ _=_ from hq);simp only[Zh]at e2 e3;have dn:(qhm text).length=atH text:=by unfold qhm;simp;omega
    have hrest:qcy text=qhm text++(vj bs++(qd5 text).2.2.2):=by
     rw[<-e1];unfold qhm;rw[Qp]
    refine⟨?_,?_,hp,?_,e5,?_,Om⟩
    .simp only
     rw[e2,<-hrest];exact hs.1
    .simp only
     rw[e2,<-hrest];rfl
    .simp only
     rw[e2];exact e4
    .simp only
     rw[e2,e3,dn,hhl];simp
  .rename_i hp
   simp only[Zc]at h;exact absurd h.1 hp
def qau(b:j5):qc:=wa b.gen++(b.base++vj b.batches)
def qc2(b:j5):Int:=match b.ends.getLast? with
 |some e=>e
 |none=>((wa b.gen).length+b.base.length:Nat)
theorem xy.split{text:qc}{b:j5}(h:xy text b):text=qau b++b.tail:=by
 have:=h.txt;unfold qau
 simpa using this
theorem xy.whole{text:qc}{b:j5}(h:xy text b):qc2 b=((qau b).length:Int):=by
 unfold qc2;rw[h.ends];by_cases h0:b.batches=[]
 .rw[h0]
  simp[qap,qau,h0,vj]
 .rw[qwm _ _ h0]
  simp[qau];omega
theorem xy.take{text:qc}{b:j5}(h:xy text b):text.take (qc2 b).toNat=qau b:=by
 rw[h.whole,Qr]
 conv=>lhs;rw[h.split]
 rw[Zk]
theorem zcb{l:qc}(h:l≠[])(hp:∀p∈zp l,p.2=true):l.getLast?=some 10:=by
 have:∀(k:Nat)(l:qc),l.length<=k->l≠[]->(∀p∈zp l,p.2=true)->l.getLast?=some 10:=by
  intro k
  induction k with
  |zero=>intro l hl h0;exact absurd (Qn.1 Om) h0
  |succ k ih=>
   intro l hl h0 hp;rw[wh h0]at hp;have g9:10∈l:=by simpa using hp _ (Zn ..)
   have e:=wl g9;by_cases hq:past 10 l=[]
   .rw[hq]at e
    rw[e];simp
   .have:=ih (past 10 l) (by have:=xp (c:=10) h0;omega) hq λp pb=>hp p (by simp[pb])
    rw[e];rw[List.getLast?_append,Zp,this];simp
 exact this _ l (Qe _) h hp
theorem zl2{l x:qc}{n:Int}(h:∀p∈zp l,p.2=true)(hx:x=[]∨x.head?=some 37)(hp:y6 n<+:l++x):y6 n<+:l:=by
 rcases qg2 hp with h1|⟨r,h1,hr⟩
 .exact h1
 .by_cases hr0:r=[]
  .rw[h1,hr0,Qj]
   exact Za _
  .exfalso
   obtain⟨c,q,rfl⟩:=Qx hr0
   have hc:c=37:=by
    obtain⟨t,ht⟩:=hr;rcases hx with rfl|hx
    .simp at ht
    .rw[<-ht]at hx
     simpa using hx
   subst hc;by_cases hl:l=[]
   .rw[hl]at h1
    simp[y6,genL]at h1
   .have r7:=zcb hl h
    obtain⟨q0,hq0⟩:∃q0,l=q0++[10]:=by
     have:=qs9 r7;exact⟨_,this.symm⟩
    have e:genL++Lib.itoa n++10::[10]=q0++10::(37::q):=by
     have:=h1;unfold y6 at this;rw[hq0]at this
     simpa using this
    have hu10:10∉genL++Lib.itoa n:=by
     intro h;rcases Qq.1 h with h|h
     .revert h;decide
     .exact qot n h
    have hA:=v7 (c:=10) [10] hu10;have hB:=xv (c:=10) [10] hu10;rw[e]at hA hB;by_cases hq10:10∈q0
    .have e2:=wl hq10
     have e3:q0++10::(37::q)=upto 10 q0++10::(past 10 q0++10::(37::q)):=by
      conv=>lhs;rw[e2]
      simp
     rw[e3,xv _ (yu 10 q0)]at hB;have:=congrArg Qo hB;simp at this;omega
    .rw[xv _ hq10]at hB
     simp at hB
theorem zdl{l x y:qc}(h:∀p∈zp l,p.2=true)(hx:wu (l++x)=(0,l++x))(hy:y=[]∨y.head?=some 37):wu (l++y)=(0,l++y):=by
 refine qr0 λn r hg e=>?_;obtain⟨t,ht⟩:=zl2 (n:=n) h hy ⟨r,e.symm⟩;have:wu (l++x)=(n,t++x):=by rw[<-ht,Ql,qpn hg]
 rw[hx]at this;have h0:(0:Int)=n:=(Xa this).1;have:=hg.1;omega
theorem xy.gen0{text:qc}{b:j5}(h:xy text b):b.gen=0∨x7 b.gen:=by
 have:=(qjb text).2;rw[h.gen]at this;exact this
theorem xy.other{text:qc}{b:j5}(h:xy text b){bs:List (List qp)}{t:qc}(hg:∀x∈bs,qe3 x)(ht:(zi t).1=2)(d5:(wa b.gen++(b.base++(vj bs++t))).length<=120000):
  xy (wa b.gen++(b.base++(vj bs++t))) ⟨b.gen,b.base,bs,qap ((wa b.gen).length+b.base.length) bs,t⟩:=by
 refine⟨rfl,?_,h.parse,hg,ht,rfl,d5⟩;rcases h.gen0 with h0|h0
 .have hgen:=h.gen
  have htext:=h.txt;have e:wa b.gen=[]:=by unfold wa;rw[if_neg (by rw[h0];decide)]
  rw[e,Zh]at htext⊢;rw[h0,htext]at hgen;simp only;rw[h0];exact zdl (λp hp=>((qri h.parse).1 p hp).2) hgen (zea (qz3 hg ht))
 .have e:wa b.gen=y6 b.gen:=by unfold wa;rw[if_pos h0]
  simp only;rw[e,qpn h0]
theorem zjw:zi []=(2,[],0):=by
 unfold zi yh;rw[if_neg Sx,if_pos];rw[if_neg (by decide)];decide
theorem xy.more{text:qc}{b:j5}(h:xy text b){x:List qp}(hx:qe3 x)(hl:(qau b++recE x).length<=120000):xy (qau b++recE x) {b with batches:=b.batches++[x],ends:=b.ends++[qc2 b+(recE x).length],tail:=[]}:=by
 have e:wa b.gen++(b.base++(vj (b.batches++[x])++[]))=qau b++recE x:=by simp[qau,qpf]
 have:=h.other (bs:=b.batches++[x]) (t:=[]) (λy hy=>by
  rcases Qq.1 hy with hy|hy
  .exact h.good y hy
  .obtain rfl:=Zb.1 hy
   exact hx) (by rw[zjw]) (by rw[e];exact hl)
 rw[e,qwn,<-h.ends]at this
 have hw:((wa b.gen).length+b.base.length+(vj b.batches).length+(recE x).length:Int)=qc2 b+(recE x).length:=by
  rw[h.whole];simp[qau];omega
 rw[hw]at this;exact this
def appF(text:qc)(x:List qp):ErrV×qc:=
 match(jj text).1 with
 |.no=>match eErr x with
  |.no=>if 50000<(encF x).length then(.num 11,[])else if 120000<qc2 (jj text).2+(recE x).length then(.num 11,[])else(.no,text.take (qc2 (jj text).2).toNat++recE x)
  |e=>(e,[])
 |e=>(e,[])
end Go.Pl
namespace Go.Proofs.YtihlchbgjdkmpaaGreatDoor
open Go Go.Av Go.RowKit Go.Proofs Go.Pl
theorem qoo(n:Int)(st:List AObj)(h:x7 n):qr E 94 [Iv n] st λr st'=>r=.tu [Sv (y6 n),.v .nilIface]∧st'=st:=by
 have h1:=h.1;have h2:=h.2;have hl:=qmd (v:=n) Om Om;have pj:=λst=>qlb n st Om Om;refine zj [.i n] (kc (qt _) (qt _)) Tryz.func94 rfl rfl (λ_=>rfl) rfl λS0=>?_;apply qf [];repeat' (first|apply Qa|(intro h;try exact cDd)|exact⟨Tryz.call54⟩|refine cpe pj ?_|exact cSd|apply qd []|refine exr ?_|refine qg ?_)
 all_goals first|(simp;omega)|(simp[y6,genL];done)
theorem q40(n:Int)(st:List AObj)(h:¬x7 n):qr E 94 [Iv n] st λr st'=>r=.tu [Sv [],.ifc 37 (Iv 1)]∧st'=st:=by
 refine zj [.i n] (kc (qt _) (qd4 (qt _))) Tryz.func94 rfl rfl (λ_=>rfl) rfl λS0=>?_;unfold x7 at h;apply qf [];repeat' (first|apply Qa|(intro h;try exact cDd)|exact cSd|apply qd []|refine exr ?_|refine qg ?_)
theorem ze7(n:Int)(st:List AObj):qr E 52 [Iv n] st λr st'=>r=Iv ((wa n).length:Nat)∧st'=st:=by
 refine zj [.i n] (qt _) Tryz.func52 rfl rfl (λ_=>rfl) rfl λS0=>?_;by_cases hg:x7 n
 .have e:wa n=y6 n:=by unfold wa;rw[if_pos hg]
  have hln:=λst=>qoo n st hg;rw[e];apply qf [];repeat' (first|apply Qa|(intro h;try exact cDd)|exact⟨Tryz.call94⟩|refine cpe hln ?_|exact cSd|apply qd []|refine exr ?_|refine qg ?_)
 .have e:wa n=[]:=by unfold wa;rw[if_neg hg]
  have hln:=λst=>q40 n st hg;rw[e];apply qf [];repeat' (first|apply Qa|(intro h;try exact cDd)|exact⟨Tryz.call94⟩|refine cpe hln ?_|exact cSd|apply qd []|refine exr ?_|refine qg ?_)
theorem zg9(l:qc)(st:List AObj):qr E 112 [Sv (genL++l),Sv [35,37,103,101,110,32]] st λr st'=>r=Sv l∧st'=st:=by
 have:=qlq (genL++l) [35,37,103,101,110,32] st;rw[qea (show [35,37,103,101,110,32]<+:genL++l from Zm genL l)]at this;have e:(genL++l).drop ([35,37,103,101,110,32]:qc).length=l:=by rw[show([35,37,103,101,110,32]:qc).length=genL.length by rfl,Qi]
 rw[e]at this;exact this
set_option maxHeartbeats 2000000 in
theorem zl3(text:qc)(st:List AObj)(hl:text.length<1000000):qr E 62 [Sv text] st λr st'=>r=.tu [Iv (wu text).1,Sv (wu text).2]∧st'=st:=by
 refine q5 (kc (qt _) (qt _)) (qs Tryz.func62 rfl (Qw rfl) ?_);rcases qtz text with⟨n,r,hg,he,ht⟩|⟨gm,ht⟩
 .rw[ht]
  have hn10:10∉genL++Lib.itoa n:=λh=>by
   rcases Qq.1 h with h|h
   .revert h;decide
   .exact qot n h
  have hcut:∀st,qr E 110 [Sv text,Sv [10,10]] st λx st'=>x=.tu [Sv (genL++Lib.itoa n),Sv r,Bv true]∧st'=st:=λst=>by
   have:=qv9 text [10,10] st Om;rw[he,qou,<-Ql,zns r hn10]at this;rw[he,qou,<-Ql];exact this
  have hb:=qmd (v:=n) (by have:=hg.1;omega) (by have:=hg.2;omega);have mf:genL.length=6:=rfl;have hat:=qn9 (v:=n) (by have:=hg.1;omega) (by have:=hg.2;omega);repeat' (first|apply qq|apply qh|apply qj|apply ql|apply qi|(apply zg;exact rfl;exact rfl)|(apply qm;exact Tryz.call110;exact hcut _)|(apply qm;exact Tryz.call112;exact zg9 _ _))
  refine qgm Tryz.call111 ((qqh (Lib.itoa n) _ Om).mono ?_);rintro _ _ ⟨rfl,n',x,rfl,hx⟩;rcases x with _|⟨t',y⟩
  .simp only at hx
   rw[hat]at hx;have e:n=n':=by simpa using hx
   subst e
   show AOps _ _ _ _ _ _ _
   have hs:y6 n=(genL++Lib.itoa n)++[10,10]:=rfl;have sm:¬y6 n≠(genL++Lib.itoa n)++[10,10]:=λh=>h hs;repeat' (first|apply qq|apply qh|apply qj|apply ql|apply qi|(apply zg;exact rfl;exact rfl)|(apply jo;(iterate 3 exact rfl))|(apply ja;exact rfl)|(apply qx;(iterate 4 exact rfl))|(apply qaj;exact cRa)|(apply qet;exact cRa)|(apply qk;exact rfl;apply qfi;exact cRa)|(apply qk;exact rfl;apply pk_f;exact cRa)|(apply qe;exact rfl;apply v8;exact cAo)|(apply jy;exact rfl;exact rfl;exact cOs)|(apply wd;exact rfl;exact rfl)|apply qz|apply qw|(apply qm;exact Tryz.call94;exact qoo _ _ hg))
   exact qo rfl (kw rfl) ⟨rfl,_,rfl⟩
  .exact absurd hat (hx n)
 .rw[ht]
  have hfst:=qwa text [10,10];have hct:=λh=>zh8 (l:=text) (m:=[10,10]) h;have tq:=qf9 (Lib.cut text [10,10]).1 [35,37,103,101,110,32];have sf:=λst=>qv9 text [10,10] st Om;generalize Lib.cut text [10,10]=c at hfst hct tq sf;obtain⟨a,b,d⟩:=c;simp only at hfst hct tq sf;repeat' (first|apply qq|apply qh|apply qj|apply ql|apply qi|(apply zg;exact rfl;exact rfl)|(apply qm;exact Tryz.call110;exact sf _)|(apply qm;exact Tryz.call112;exact qlq _ _ _))
  refine qgm Tryz.call111 ((qqh (Lib.trimPrefix a [35,37,103,101,110,32]) _ Om).mono ?_);rintro _ _ ⟨rfl,n,x,rfl,hx⟩
  show AOps _ _ _ _ _ _ _
  have dr:¬(d=true∧x7 n∧y6 n=a++[10,10]):=λ⟨h1,h2,h3⟩=>by
   refine gm n b h2 ?_;rw[h3];exact hct h1
  by_cases hg:x7 n
  .have lj:=q02 hg
   cases d with
   |false=>
    rcases x with _|⟨t',y⟩
    all_goals
     repeat' (first|apply qq|apply qh|apply qj|apply ql|apply qi|(apply zg;exact rfl;exact rfl)|(apply ja;exact rfl)|(apply qx;(iterate 4 exact rfl))|(apply qbp;exact cRa)|(apply qa8;exact cRa)|(apply qk;exact rfl;apply qi4;exact cRa)|(apply qk;exact rfl;apply pk_t;exact cRa)|(apply qe;exact rfl;apply cd_t;exact cRa)|apply qw|(apply qm;exact Tryz.call94;exact qoo _ _ hg))
     exact qo rfl (kw rfl) ⟨rfl,_,rfl⟩
   |true=>
    have b9:y6 n≠a++[10,10]:=λh=>dr ⟨rfl,hg,h⟩;rcases x with _|⟨t',y⟩
    all_goals
     repeat' (first|apply qq|apply qh|apply qj|apply ql|apply qi|(apply zg;exact rfl;exact rfl)|(apply jo;(iterate 3 exact rfl))|(apply ja;exact rfl)|(apply qx;(iterate 4 exact rfl))|(apply qaj;exact cRa)|(apply qet;exact cRa)|(apply qa8;exact cRa)|(apply qk;exact rfl;apply qfi;exact cRa)|(apply qk;exact rfl;apply pk_t;exact cRa)|(apply qk;exact rfl;apply pk_f;exact cRa)|(apply qe;exact rfl;apply vo;exact cAo)|(apply qe;exact rfl;apply cd_t;exact cRa)|(apply jy;exact rfl;exact rfl;exact cOs)|(apply xj;exact rfl;exact rfl)|(apply wd;exact rfl;exact rfl)|apply qw|(apply qm;exact Tryz.call94;exact qoo _ _ hg))
     exact qo rfl (kw rfl) ⟨rfl,_,rfl⟩
  .cases d
   all_goals
    rcases x with _|⟨t',y⟩
    all_goals
     repeat' (first|apply qq|apply qh|apply qj|apply ql|apply qi|(apply zg;exact rfl;exact rfl)|(apply ja;exact rfl)|(apply qx;(iterate 4 exact rfl))|(apply qaj;exact cRa)|(apply qbp;exact cRa)|(apply qet;exact cRa)|(apply qa8;exact cRa)|(apply qk;exact rfl;apply qi4;exact cRa)|(apply qk;exact rfl;apply qfi;exact cRa)|(apply qk;exact rfl;apply pk_t;exact cRa)|(apply qk;exact rfl;apply pk_f;exact cRa)|(apply qe;exact rfl;apply cd_t;exact cRa)|(apply xj;exact rfl;exact rfl)|(apply wd;exact rfl;exact rfl)|apply qw|(apply qm;exact Tryz.call94;exact q40 _ _ hg))
     exact qo rfl (kw rfl) ⟨rfl,_,rfl⟩
theorem qi6(n:Int)(st:List AObj):qr E 176 [Iv n] st λr st'=>r=Bv (decide (x7 n))∧st'=st:=by
 refine q5 (qt _) (qs Tryz.func176 rfl (Qw rfl) ?_);by_cases h1:1<=n
 .by_cases h2:n<=2147483648
  all_goals
   repeat' (first|apply qq|apply qh|apply qj|apply ql|apply qi|(apply qv;(iterate 3 exact rfl))|(apply qx;(iterate 4 exact rfl))|(apply xf;exact cAo)|(apply qk;exact rfl;apply w7;exact cAo)|apply qw)
   exact qo rfl (q7 rfl) ⟨congrArg Bv (by simp[x7,h1,h2]),_,rfl⟩
 .skip
  repeat' (first|apply qq|apply qh|apply qj|apply ql|apply qi|(apply qv;(iterate 3 exact rfl))|(apply qx;(iterate 4 exact rfl))|(apply xu;exact cAo)|(apply qk;exact rfl;apply wt;exact cAo)|apply qw)
  exact qo rfl (q7 rfl) ⟨congrArg Bv (by simp[x7,h1]),_,rfl⟩
theorem znc{l:qc}{k:Nat}(h:10∉l.take k)(hk:l.length<=k∨l.getD k 0=10)(s4:k<l.length∨l.length<=k):upto 10 l=l.take k:=by
 rcases s4 with d8|fp
 .have e:l.getD k 0=10:=hk.resolve_left Om
  have e2:l=l.take k++10::l.drop (k+1):=by
   conv=>lhs;rw[<-Qp k l,Qf d8]
   congr 2
   simpa[Zy,d8]using e
  conv=>lhs;rw[e2]
  exact v7 _ h
 .rw[Zj fp]at h⊢
  exact xx h
set_option maxHeartbeats 4000000 in
theorem q8z(text:qc)(st:List AObj)(hl:text.length<1000000):qr E 125 [Sv text] st λr st'=>r=.tu [Iv (wu text).1,Sv (wu text).2]∧st'=st:=by
 refine zj [.s text] (kc (qt _) (qt _)) Tryz.func125 rfl rfl (λ_=>rfl) rfl λS0=>?_;by_cases h9:text.length<9
 .have ht:wu text=(0,text):=qr0 λn r hg e=>by
   have:=q95 n;rw[e]at h9;simp[y6,genL]at h9;omega
  rw[ht];apply qf [];repeat' (first|apply Qa|(intro h;try exact cDd)|exact cSd|apply qd []|refine exr ?_|refine qg ?_)
 .have hp6:text.take 6=[35,37,103,101,110,32]↔genL<+:text:=by
   rw[List.prefix_iff_eq_take];exact eq_comm
  by_cases hp:genL<+:text
  .have pb:=hp6.2 hp
   have hd:(text.drop 6).length=text.length-6:=Sx
   apply qf [];repeat' (first|apply Qa|(intro h;try exact cDd)|exact absurd pb (by assumption)|exact cSd|apply qd []|refine exr ?_|refine qg ?_)
   refine zx (X:=Nat) (λk=>⟨[(0,.s text),(4,.i k)],[],0⟩) (λk=>6<=k∧k<=text.length∧10∉(text.drop 6).take (k-6)) (λk=>text.length-k) 6 ⟨Om,Om,Sx⟩ ?_ ?_
   .skip
    repeat' (first|apply Qa|(intro h;try exact cDd)|exact cSd|apply qd []|refine exr ?_|refine qg ?_)
   rintro k ⟨hk6,hk,gm⟩
   have hgd:(text.drop 6).getD (k-6) 0=text.getD k 0:=by
    simp only[List.getD_eq_getElem?_getD,List.getElem?_drop];rw[show 6+(k-6)=k by omega]
   by_cases rm:k<text.length∧text.getD k 0≠10
   .obtain⟨br,s4⟩:=rm
    have gk:((text.getD k 0).toNat:Int)≠10:=λe=>s4 ((qcb _).1 e)
    have hno2:10∉(text.drop 6).take (k+1-6):=by
     rw[show k+1-6=(k-6)+1 by omega];refine qd3 Om gm ?_;rw[hgd];exact s4
    apply qf [];repeat' (first|apply Qa|(intro h;try exact cDd)|(refine Qb (k+1) ⟨⟨Om,Om,hno2⟩,Om,?_⟩)|exact cSd|apply qd []|refine exr ?_|refine qg ?_)
   .have hu:upto 10 (text.drop 6)=(text.drop 6).take (k-6):=by
     refine znc gm ?_ Om;by_cases br:k<text.length
     .rw[hgd]
      exact .inr (Classical.byContradiction λh=>rm ⟨br,h⟩)
     .exact .inl Om
    have hul:((text.drop 6).take (k-6)).length=k-6:=So
    have r8:(text.take k).drop 6=(text.drop 6).take (k-6):=by rw[List.drop_take]
    have i6:wu text=match numZ ((text.drop 6).take (k-6))with
     |some n=>if x7 n∧[10,10]<+:text.drop k then(n,text.drop (k+2))else(0,text)
     |none=>(0,text):=by
     unfold wu;rw[if_pos hp,hu,hul,show 6+(k-6)=k by omega,show 8+(k-6)=k+2 by omega]
     try rfl
    rw[i6];have pk:((text.drop 6).take (k-6)).length<1000000:=Om
    by_cases br:k<text.length
    .have s4:text.getD k 0=10:=Classical.byContradiction λh=>rm ⟨br,h⟩
     have gk:((text.getD k 0).toNat:Int)=10:=(qcb _).2 s4
     cases hz:numZ ((text.drop 6).take (k-6))with
     |none=>
      rw[<-r8]at hz;have hnN:=λst=>qhz _ st (by rw[r8];omega) hz;apply qf []
      repeat' (first|apply Qa|(intro h;try exact cDd)|exact⟨Tryz.call175⟩|refine cpe hnN ?_|exact cSd|apply qd []|refine exr ?_|refine qg ?_)
     |some n=>
      rw[<-r8]at hz;have hnS:=λst=>qe0 _ n st (by rw[r8];omega) hz;simp only;by_cases hg:x7 n
      .have hg1:decide (x7 n)=true:=decide_eq_true hg
       have rm:=λst=>qi6 n st;simp only[hg1]at rm;by_cases hk4:text.length<=k+1
       .have hnp:¬ [10,10]<+:text.drop k:=λ⟨q,hq⟩=>by
         have:=congrArg Qo hq;simp at this;omega
        rw[if_neg (λh=>hnp h.2)];apply qf [];repeat' (first|apply Qa|(intro h;try exact cDd)|exact⟨Tryz.call175⟩|refine cpe hnS ?_|exact⟨Tryz.call176⟩|refine cpe rm ?_|exact cSd|apply qd []|refine exr ?_|refine qg ?_)
       .have e2:text.drop k=text.getD k 0::text.getD (k+1) 0::text.drop (k+2):=by
         rw[Qf br,Qf (show k+1<text.length by omega)];simp[Zy,br,show k+1<text.length by omega]
        by_cases hk5:text.getD (k+1) 0=10
        .have hk6':((text.getD (k+1) 0).toNat:Int)=10:=(qcb _).2 hk5
         have hk7:¬((text.getD (k+1) 0).toNat:Int)≠10:=λh=>h hk6';rw[if_pos ⟨hg,by rw[e2,s4,hk5];exact⟨_,rfl⟩⟩];apply qf [];repeat' (first|apply Qa|(intro h;try exact cDd)|exact⟨Tryz.call175⟩|refine cpe hnS ?_|exact⟨Tryz.call176⟩|refine cpe rm ?_|exact cSd|apply qd []|refine exr ?_|refine qg ?_)
         all_goals exact absurd hk6' (by assumption)
        .have hk6':¬((text.getD (k+1) 0).toNat:Int)=10:=λe=>hk5 ((qcb _).1 e)
         rw[if_neg (λh=>by
          obtain⟨q,hq⟩:=h.2;rw[e2]at hq
          exact hk5 (Qz (Qz hq).2).1.symm)]
         apply qf [];repeat' (first|apply Qa|(intro h;try exact cDd)|exact⟨Tryz.call175⟩|refine cpe hnS ?_|exact⟨Tryz.call176⟩|refine cpe rm ?_|exact cSd|apply qd []|refine exr ?_|refine qg ?_)
         all_goals exact absurd hk6' (by assumption)
      .have hg1:decide (x7 n)=false:=decide_eq_false hg
       have rm:=λst=>qi6 n st;simp only[hg1]at rm;rw[if_neg (λh=>hg h.1)];apply qf [];repeat' (first|apply Qa|(intro h;try exact cDd)|exact⟨Tryz.call175⟩|refine cpe hnS ?_|exact⟨Tryz.call176⟩|refine cpe rm ?_|exact cSd|apply qd []|refine exr ?_|refine qg ?_)
    .have hke:k=text.length:=by omega
     have hnp:¬ [10,10]<+:text.drop k:=λ⟨q,hq⟩=>by
      have:=congrArg Qo hq;simp at this;omega
     cases hz:numZ ((text.drop 6).take (k-6))with
     |none=>
      rw[<-r8]at hz;have hnN:=λst=>qhz _ st (by rw[r8];omega) hz;apply qf []
      repeat' (first|apply Qa|(intro h;try exact cDd)|exact⟨Tryz.call175⟩|refine cpe hnN ?_|exact cSd|apply qd []|refine exr ?_|refine qg ?_)
     |some n=>
      rw[<-r8]at hz;have hnS:=λst=>qe0 _ n st (by rw[r8];omega) hz;simp only;rw[if_neg (λh=>hnp h.2)];by_cases hg:x7 n
      .have hg1:decide (x7 n)=true:=decide_eq_true hg
       have rm:=λst=>qi6 n st;simp only[hg1]at rm;apply qf [];repeat' (first|apply Qa|(intro h;try exact cDd)|exact⟨Tryz.call175⟩|refine cpe hnS ?_|exact⟨Tryz.call176⟩|refine cpe rm ?_|exact cSd|apply qd []|refine exr ?_|refine qg ?_)
      .have hg1:decide (x7 n)=false:=decide_eq_false hg
       have rm:=λst=>qi6 n st;simp only[hg1]at rm;apply qf [];repeat' (first|apply Qa|(intro h;try exact cDd)|exact⟨Tryz.call175⟩|refine cpe hnS ?_|exact⟨Tryz.call176⟩|refine cpe rm ?_|exact cSd|apply qd []|refine exr ?_|refine qg ?_)
  .have pb:text.take 6≠[35,37,103,101,110,32]:=λh=>hp (hp6.1 h)
   have ht:wu text=(0,text):=by unfold wu;rw[if_neg hp]
   rw[ht];apply qf [];repeat' (first|apply Qa|(intro h;try exact cDd)|exact absurd pb (by assumption)|exact cSd|apply qd []|refine exr ?_|refine qg ?_)
@[reducible] def qht (L : List LnV) : AV := .sl 1 (L.map fun x => Iv (qy x.text)) none
def qi5(L:List LnV):Nat->Bool
 |0=>false
 |j+1=>match L[j]?with
  |some x=>decide (qy x.text=4∨qy x.text=3)
  |none=>false
theorem qmi{L:List LnV}{i:Nat}{x:LnV}(h:L[i]?=some x):(L.map λx=>Iv (qy x.text))[i]?=some (Iv (qy x.text)):=by simp[h]
theorem qks{L:List LnV}{i:Nat}{x:LnV}(h:L[i]?=some x):(L.map lnA)[i]?=some (lnA x):=by simp[h]
theorem q2i(L:List LnV)(i:Nat)(st:List AObj)(hi:i<=L.length)(hL:L.length<1000000):qr E 232 [qht L,Iv i] st λr st'=>r=Bv (qi5 L i)∧st'=st:=by
 refine zj [.a (qht L),.i i] (qt _) Tryz.func232 rfl rfl (λ_=>rfl) rfl λS0=>?_
 cases i with
 |zero=>
  apply qf []
  repeat' (first|apply Qa|(intro h;try exact cDd)|exact cSd|apply qd []|refine exr ?_|refine qg ?_)
 |succ j=>
  obtain⟨x,hx⟩:∃x,L[j]?=some x:=⟨_,Qc Om⟩;have d9:=qmi hx;have hp:qi5 L (j+1)=decide (qy x.text=4∨qy x.text=3):=by simp only[qi5,hx]
  rw[hp];apply qf [];repeat' (first|apply Qa|(intro h;try exact cDd)|(refine Qb (j) ⟨Om,_,d9,?_⟩)|exact cSd|apply qd []|refine exr ?_|refine qg ?_)
  all_goals (simp[*];done)
theorem q0l{L:List LnV}{k:Nat}{x:LnV}(h:L[k]?=some x):(L.drop k).map wo=(x.text,x.ended)::(L.drop (k+1)).map wo:=by
 obtain⟨d8,he⟩:=Qy.1 h;rw[Qf d8,he];rfl
def qi8(L:List LnV)(i:Nat)(x:LnV):List qc:=x.text::vi ((L.drop (i+1)).map wo)
theorem q5g:∀(r:List (qc×Bool)),(vi r).length<=r.length
 | []=>by simp[vi]
 |(t,e)::r=>by
  have:=q5g r;rw[vi];split <;>simp <;>omega
theorem q5h:∀{r:List (qc×Bool)}{n:Nat},(∀p∈r,p.1.length<=n)->∀s∈vi r,s.length<=n
 | [],_,_,s,hs=>by simp[vi]at hs
 |(t,e)::r,n,h,s,hs=>by
  rw[vi]at hs;split at hs
  .rcases Qh.1 hs with rfl|hs
   .exact h (s,e) Sx
   .exact q5h (λp hp=>h p (by simp[hp])) s hs
  .simp at hs
structure LnsB (L:List LnV):Prop where
 len:L.length<100000
 val:∀x∈L,x.text.length<100000
theorem LnsB.said{L:List LnV}(h:LnsB L){i:Nat}{x:LnV}(hx:L[i]?=some x):LsB (qi8 L i x):=by
 have h1:=q5g ((L.drop (i+1)).map wo);have h2:=h.len;have h3:=h.val x (Qm hx);refine⟨?_,λs hs=>?_⟩
 .unfold qi8
  simp at h1⊢;omega
 .rcases Qh.1 hs with rfl|hs
  .omega
  .have:=q5h (n:=100000) (λp hp=>by
    obtain⟨y,hy,rfl⟩:=Ze.1 hp;have:=h.val y (Zl hy);simp only[wo]
    omega) s hs
   omega
theorem qtv(L:List LnV)(i:Nat)(x:LnV)(st:List AObj)(hL:LnsB L)(hx:L[i]?=some x):qr E 180 [lnsA L,qht L,Iv i] st λr st'=>r=Ss (qi8 L i x)∧st'=st:=by
 refine zj [.a (lnsA L),.a (qht L),.i i] (qnv _) Tryz.func180 rfl rfl (λ_=>rfl) rfl λS0=>?_;have hLl:=hL.len;have dg:=lt_of_getElem? hx;have d9:=qks hx;have o0:(L.map lnA).length=L.length:=Sx
 apply qf [14];repeat' (first|apply Qa|(intro h;try exact cDd)|(refine Qb (i) ⟨Om,_,d9,?_⟩)|exact cSd|apply qd [14]|refine exr ?_|refine qg ?_)
 refine zx (X:=Nat×List qc) (λ(k,acc)=>⟨[(0,.a (lnsA L)),(1,.a (qht L)),(7,.tp 0),(8,.i k)],[(0,some (.tip 1 9 (acc.map λx=>Sv x)))],1⟩) (λ(k,acc)=>i+1<=k∧k<=L.length∧acc++vi ((L.drop k).map wo)=qi8 L i x∧acc.length<=k) (λ(k,_)=>L.length-k) (i+1,[x.text]) ⟨Om,Om,rfl,Sx⟩ ?_ ?_
 .skip
  repeat' (first|apply Qa|(intro h;try exact cDd)|exact cSd|apply qd []|refine exr ?_|refine qg ?_)
  all_goals (simp;done)
 .rintro⟨k,acc⟩ ⟨br,s4,dq,hal⟩
  have hmc:(acc.map λx=>Sv x).length=acc.length:=Sx
  by_cases hk:k<L.length
  .obtain⟨y,hy⟩:∃y,L[k]?=some y:=⟨_,Qc hk⟩
   have hgy:=qks hy;have rp:=qmi hy;rw[q0l hy]at dq;by_cases h3:qy y.text=3
   .rw[qi3 h3]at dq
    apply qf [];repeat' (first|apply Qa|(intro h;try exact cDd)|(refine Qb (k) ⟨Om,_,hgy,?_⟩)|(refine Qb (k) ⟨Om,_,rp,?_⟩)|(refine Qb (k+1,acc++[y.text]) ⟨⟨Om,Om,by simpa using dq,So⟩,by simp only;omega,?_⟩)|exact cSd|apply qd []|refine exr ?_|refine qg ?_)
    all_goals (simp;done)
   .rw[qo1 h3,Qj]at dq
    rw[<-dq];apply qf [];repeat' (first|apply Qa|(intro h;try exact cDd)|(refine Qb (k) ⟨Om,_,rp,?_⟩)|exact cSd|apply qd []|refine exr ?_|refine qg ?_)
  .rw[Qv Om,List.map_nil,vi,Qj]at dq
   rw[<-dq];apply qf [];repeat' (first|apply Qa|(intro h;try exact cDd)|exact cSd|apply qd []|refine exr ?_|refine qg ?_)
theorem q6s(L:List LnV)(i:Nat)(x:LnV)(n:Nat)(rec:Int)(st:List AObj)(hL:LnsB L)(hx:L[i]?=some x):qr E 178 [lnsA L,qht L,Iv i,Iv n,Iv rec] st λr st'=>r=Iv (ko (qi5 L i) x.text x.ended ((L.drop (i+1)).map wo) n rec)∧st'=st:=by
 refine zj [.a (lnsA L),.a (qht L),.i i,.i n,.i rec] (qt _) Tryz.func178 rfl rfl (λ_=>rfl) rfl λS0=>?_;have hLl:=hL.len;have dg:=lt_of_getElem? hx;have hgy:=qks hx;have rp:=qmi hx;have bd:=λst=>q2i L i st Om Om;have hsa:=λst=>qtv L i x st hL hx;have u7:=λst=>qlk (qi8 L i x) st (hL.said hx);unfold qcw at u7;unfold ko;have hsd:x.text::vi ((L.drop (i+1)).map wo)=qi8 L i x:=rfl;rw[hsd];generalize qi5 L i=pv at *;generalize qi8 L i x=sl at *;generalize(zv sl).2=u at *;obtain⟨xn,xa,xt,xe⟩:=x;dsimp only at *;apply qf [];repeat' (first|apply Qa|(intro h;try exact cDd)|(refine Qb (i) ⟨Om,_,rp,?_⟩)|(refine Qb (i) ⟨Om,_,hgy,?_⟩)|exact⟨Tryz.call232⟩|refine cpe bd ?_|exact⟨Tryz.call180⟩|refine cpe hsa ?_|exact⟨Tryz.call179⟩|refine cpe u7 ?_|exact cSd|apply qd []|refine exr ?_|refine qg ?_)
 all_goals clear bd hsa u7 hgy rp
 all_goals (simp_all <;>omega)
end Go.Proofs.YtihlchbgjdkmpaaGreatDoor
namespace Go.Pl
open Go Go.Proofs Go.Proofs.YtihlchbgjdkmpaaGreatDoor
theorem qxj(l:qc):(zi l).1=1∨(zi l).1=2∨(zi l).1=3:=by
 unfold zi;split
 .split
  .split
   .unfold yl
    split <;>simp
   .split
    .unfold xo
     split
     .simp
     .split <;>simp
    .simp
  .simp
 .split <;>simp
theorem q1j{l:qc}(h1:(zi l).1=1):∃k:Nat,(zi l).2.2=(k:Int)∧0<k∧k<=l.length:=by
 obtain⟨_,m,hm,hn⟩:=qxk (show zi l=(1,(zi l).2.1,(zi l).2.2)by rw[<-h1]);refine⟨_,hn,?_,?_⟩
 .rw[qnx]
  simp[recL,wr,zf]
 .have:=congrArg Qo hm
  rw[Qu]at this;omega
theorem qp3{l:qc}:(zi l).2.1.length<=l.length:=by
 have hp:=vl 10 l;unfold zi;split
 .split
  .split
   .simp
   .split
    .unfold xo
     split
     .simp
     .split
      .simp;omega
      .simp
    .simp
  .simp
 .split <;>simp
theorem qqi(l:qc):je l.length l<=l.length:=(qqj _ _ _ (Qe _) (Qe _)).2
theorem qxn{f:Nat}{l:qc}{a:Int}{bs:List (List qp)}{es:List Int}(h:(zi l).1=2):recsF (f+1) l a bs es=(false,bs,es,l):=by
 rw[recsF,if_pos h]
theorem q1l{f:Nat}{l:qc}{a:Int}{bs:List (List qp)}{es:List Int}(h:(zi l).1=3):recsF (f+1) l a bs es=(true,bs,es,l):=by
 rw[recsF,if_neg (by rw[h];decide),if_neg (by rw[h];decide)]
theorem q1k{f:Nat}{l:qc}{a:Int}{bs:List (List qp)}{es:List Int}(h:(zi l).1=1)(hd:decF (zi l).2.1=none):recsF (f+1) l a bs es=(true,bs,es,l):=by
 rw[recsF,if_neg (by rw[h];decide),if_pos h,hd]
theorem qxm{f k:Nat}{l:qc}{a:Int}{bs:List (List qp)}{es:List Int}{b:List qp}(h:(zi l).1=1)(hd:decF (zi l).2.1=some b)(hk:(zi l).2.2=(k:Int)):recsF (f+1) l a bs es=recsF f (l.drop k) (a+k) (bs++[b]) (es++[a+k]):=by
 rw[recsF,if_neg (by rw[h];decide),if_pos h,hd,hk];rfl
end Go.Pl
namespace Go.Proofs.YtihlchbgjdkmpaaGreatDoor
open Go Go.Av Go.RowKit Go.Proofs Go.Pl
@[reducible] def wn (es : List Int) : AV := .sl 1 (es.map fun x => Iv x) none
@[reducible] def qbj (bs : List (List qp)) : AV := .sl 1 (bs.map zr) none
@[reducible] def qbd (b : j5) : AV := .ag [Iv b.gen, Sv b.base, qbj b.batches, wn b.ends, Sv b.tail]
theorem znm(l:qc)(b:Bool)(st:List AObj)(hl:l.length<4294967281)(h:begF l=b):qr E 114 [Sv l] st λr st'=>r=Bv b∧st'=st:=by
 subst h;exact zhy l st hl
theorem zhx(text:qc)(st:List AObj)(hl:text.length<1000000):qr E 63 [Sv text] st λr st'=>r=Iv ((je text.length text:Nat):Int)∧st'=st:=by
 refine zj [.s text] (qt _) Tryz.func63 rfl rfl (λ_=>rfl) rfl λS0=>?_;apply qf [];repeat' (first|apply Qa|(intro h;try exact cDd)|exact⟨Tryz.call113⟩|(refine Qb _ ⟨qpk _,?_⟩)|exact cSd|apply qd []|refine exr ?_|refine qg ?_)
 refine qig (X:=Int) text 1 2 [0,1] (λr=>⟨[(0,.s text),(2,.bx 0 0),(5,.fn (.func 154) [] [.bx 1 0])],[(0,some (.cells 3 [.i r])),(1,some (.cells 9 [.s text]))],2⟩) _
  (λk rest r=>r=0∧rest.length<=text.length∧je text.length text=je text.length rest) (λc r=>c=.ret∧r=((je text.length text:Nat):Int)) 0 ⟨rfl,Om,rfl⟩ ?_ id Om (λ_=>rfl) rfl (λ_=>rfl) (λ_=>rfl) rfl ?_ ?_ ?_
 .skip
  repeat' (first|apply Qa|(intro h;try exact cDd)|exact cSd|apply qd []|refine exr ?_|refine qg ?_)
 .rintro k rest r ⟨rfl,dj,hbeg⟩ b9 d7
  have hu:=vk 10 rest;have fj:=vl 10 rest;have hbg:=λst=>znm (upto 10 rest) _ st Om rfl;unfold qov;by_cases hb:begF (upto 10 rest)=true
  .rw[hb]at hbg
   have hv:((text.length:Int)-rest.length)=((je text.length text:Nat):Int):=by
    rw[hbeg,qj9 b9 hb];omega
   refine RA.mk λS F ρ rd=>?_;apply qf [];repeat' (first|apply Qa|(intro h;try exact cDd)|(refine RB.mk λS rd=>?_;apply qf [])|exact⟨Tryz.call114⟩|refine cpe hbg ?_|(refine Qb _ ⟨⟨rfl,hv⟩,?_⟩)|exact cSd|apply qd []|refine exr ?_|refine qg ?_)
  .have fx:begF (upto 10 rest)=false:=by simpa using hb
   rw[fx]at hbg;refine RA.mk λS F ρ rd=>?_;apply qf [];repeat' (first|apply Qa|(intro h;try exact cDd)|(refine RB.mk λS rd=>?_;apply qf [])|exact⟨Tryz.call114⟩|refine cpe hbg ?_|(refine Qb 0 ⟨⟨rfl,Om,by rw[hbeg,ql1 b9 (by rw[fx];decide)]⟩,?_⟩)|exact cSd|apply qd []|refine exr ?_|refine qg ?_)
 .rintro k r ⟨rfl,dj,hbeg⟩
  rw[qe8]at hbeg;rw[hbeg];repeat' (first|apply Qa|(intro h;try exact cDd)|exact cSd|apply qd []|refine exr ?_|refine qg ?_)
 .rintro c r ⟨rfl,rfl⟩
  repeat' (first|apply Qa|(intro h;try exact cDd)|exact cSd|apply qd []|refine exr ?_|refine qg ?_)
theorem qad{a b c:AV}(h1:Pure a)(h2:Pure b)(h3:Pure c):Pure (.tu [a,b,c]):=qeh λz hz=>by
 simp only[Qh,Qt,or_false]at hz;rcases hz with rfl|rfl|rfl
 .exact h1
 .exact h2
 .exact h3
def qcv(text:qc):AV:=if 60000<text.length then .tu [vr [],Iv (-9),Iv 1]else match(ji text).1 with
 |some e=>.tu [vr [],Iv e.1,Iv e.2]
 |none=>.tu [vr (ji text).2,Iv (-9),Iv 0]
theorem qy6(text:qc):Pure (qcv text):=by
 unfold qcv;split
 .exact qad (qc9 _) (qt _) (qt _)
 .split
  .exact qad (qc9 _) (qt _) (qt _)
  .exact qad (qc9 _) (qt _) (qt _)
theorem zcx{L:List LnV}{k:Nat}{x:LnV}(h:L[k]?=some x):qi5 L (k+1)=decide (qy x.text=4∨qy x.text=3):=by simp only[qi5,h]
set_option maxHeartbeats 2000000 in
theorem qrq(text:qc)(st:List AObj)(hl:text.length<1000000):qr E 128 [Sv text] st λr st'=>r=qcv text∧st'=st:=by
 refine zj [.s text] (qy6 text) Tryz.func128 rfl rfl (λ_=>rfl) rfl λS0=>?_;by_cases u0:60000<text.length
 .have e:qcv text=.tu [vr [],Iv (-9),Iv 1]:=if_pos u0
  rw[e];apply qf [];repeat' (first|apply Qa|(intro h;try exact cDd)|exact cSd|apply qd []|refine exr ?_|refine qg ?_)
 have hRA:qcv text=match(ji text).1 with
  |some e=>.tu [vr [],Iv e.1,Iv e.2]
  |none=>.tu [vr (ji text).2,Iv (-9),Iv 0]:=if_neg u0
 rw[hRA];clear hRA;obtain⟨L,hL⟩:∃L,L=lns text:=⟨_,rfl⟩;have hLl:L.length<=text.length:=by rw[hL];exact qdu _ text 0 0 (Qe _)
 have hLB:LnsB L:=⟨Om,λx hx=>by have:=qw6 _ text 0 0 (Qe _) x (by rw[hL]at hx;exact hx);omega⟩
 have a8:refL 0 ((L.drop 0).map wo) (qi5 L 0) ⟨2,[],[]⟩ 0 []=ji text:=by
  rw[Zw,hL,qq7];exact qei text
 have o0:(L.map lnA).length=L.length:=Sx
 have hspl:∀st,qr E 126 [Sv text] st λr st'=>r=lnsA L∧st'=st:=λst=>by rw[hL];exact qkk text st Om
 clear hL;generalize ji text=PF at a8;apply qf [];repeat' (first|apply Qa|(intro h;try exact cDd)|exact⟨Tryz.call126⟩|refine cpe hspl ?_|exact cSd|apply qd []|refine exr ?_|refine qg ?_)
 refine zx (X:=Nat) (λk=>⟨[(5,.a (lnsA L)),(6,.tp 0),(7,.i k)],[(0,some (.tip 1 3 ((L.take k).map λx=>Iv (qy x.text))))],1⟩) (λk=>k<=L.length) (λk=>L.length-k) 0 Om ?_ ?_
 .skip
  repeat' (first|apply Qa|(intro h;try exact cDd)|exact cSd|apply qd []|refine exr ?_|refine qg ?_)
 .intro k hk
  by_cases hkl:k<L.length
  .obtain⟨x,hx⟩:∃x,L[k]?=some x:=⟨_,Qc hkl⟩
   have sk:=qks hx;have hxl:=hLB.val x (Qm hx);have px:=λst=>qjo x.text st Om;apply qf [];repeat' (first|apply Qa|(intro h;try exact cDd)|(refine Qb _ ⟨rfl,_,sk,?_⟩)|exact⟨Tryz.call177⟩|refine cpe px ?_|(refine Qb (k+1) ⟨Om,Om,?_⟩)|exact cSd|apply qd []|refine exr ?_|refine qg ?_)
   rw[List.take_add_one,hx];simp
  .have e:L.take k=L:=Zj Om
   apply qf [];repeat' (first|apply Qa|(intro h;try exact cDd)|exact cSd|apply qd []|refine exr ?_|refine qg ?_)
   refine zx (X:=Nat×zh×Int×List zh) (λ(k,⟨nk,nr,nf⟩,rec,out)=>⟨[(5,.a (lnsA L)),(6,.a (qht L)),(8,.tp 0),(9,.bx 1 0),(10,.i rec),(11,.i k)],
     [(0,some (.tip 3 98 (out.map kq))),(1,some (.cells 98 [.i nk,.s nr,.tp 2])),(2,some (.tip 2 77 (nf.map fldA)))],3⟩)
    (λ(k,now,rec,out)=>k<=L.length∧refL k ((L.drop k).map wo) (qi5 L k) now rec out=PF∧0<=rec∧rec<=k∧out.length<=2*k∧now.fields.length<=k∧now.raw.length<=200000*k) (λx=>L.length-x.1) (0,⟨2,[],[]⟩,0,[])
    ⟨Om,a8,Om,Om,Sx,Sx,Sx⟩ ?_ ?_
   .skip
    repeat' (first|apply Qa|(intro h;try exact cDd)|(refine qg ?_;rw[e])|exact cSd|apply qd []|refine exr ?_|refine qg ?_)
   .rintro⟨j,⟨nk,nr,nf⟩,rec,out⟩ ⟨hj,hR,hr0,hr1,mw,o7,dj⟩
    simp only at o7 dj;by_cases hjl:j<L.length
    .obtain⟨x,hx⟩:∃x,L[j]?=some x:=⟨_,Qc hjl⟩
     have sk:=qks hx;have hkx:=qmi hx;have hxl:=hLB.val x (Qm hx);have hwr:∀st,qr E 178 [lnsA L,qht L,Iv j,Iv ((nf.map fldA).length:Nat),Iv rec] st λr st'=>r=Iv (ko (qi5 L j) x.text x.ended ((L.drop (j+1)).map wo) nf.length rec)∧st'=st:=λst=>by rw[Zi];exact q6s L j x nf.length rec st hLB hx
     have hsa:=λst=>qtv L j x st hLB hx;have u7:=λst=>qlk (qi8 L j x) st (hLB.said hx);unfold qcw at u7;have hpv:=zcx hx;have hsd:x.text::vi ((L.drop (j+1)).map wo)=qi8 L j x:=rfl;rw[q0l hx,refL,hsd]at hR;simp only at hR;by_cases h1:qy x.text=1
     .apply qf []
      repeat' (first|apply Qa|(intro h;try exact cDd)|(refine Qb _ ⟨rfl,_,sk,?_⟩)|(refine Qb _ ⟨rfl,_,hkx,?_⟩)|exact⟨Tryz.call178⟩|refine cpe hwr ?_|exact⟨Tryz.call180⟩|refine cpe hsa ?_|exact⟨Tryz.call179⟩|refine cpe u7 ?_|(rw[if_pos (by assumption)]at hR;rw[<-hR];exact qsq _)|(refine Qb (j+1,⟨2,[],[]⟩,rec,outR ⟨nk,nr,nf⟩ out++[⟨1,x.text++[10],[]⟩]) ⟨?_,by simp only;omega,?_⟩)|exact cSd|apply qd []|refine exr ?_|refine qg ?_)
      all_goals first|grind [outR]|(simp[outR,kq, *]at hR⊢;done)|(simp[outR,kq, *]at hR⊢;omega)
     .by_cases h4:qy x.text=4
      .apply qf []
       repeat' (first|apply Qa|(intro h;try exact cDd)|(refine Qb _ ⟨rfl,_,sk,?_⟩)|(refine Qb _ ⟨rfl,_,hkx,?_⟩)|exact⟨Tryz.call178⟩|refine cpe hwr ?_|exact⟨Tryz.call180⟩|refine cpe hsa ?_|exact⟨Tryz.call179⟩|refine cpe u7 ?_|(rw[if_pos (by assumption)]at hR;rw[<-hR];exact qsq _)|(refine Qb (j+1,⟨3,nr++x.text++[10],nf++[(zv (qi8 L j x)).1]⟩,if nk=2 then rec+1 else rec,out) ⟨?_,by simp only;omega,?_⟩)|exact cSd|apply qd []|refine exr ?_|refine qg ?_)
       all_goals first|grind [outR]|(simp[outR,kq, *]at hR⊢;done)|(simp[outR,kq, *]at hR⊢;omega)
      .apply qf []
       repeat' (first|apply Qa|(intro h;try exact cDd)|(refine Qb _ ⟨rfl,_,sk,?_⟩)|(refine Qb _ ⟨rfl,_,hkx,?_⟩)|exact⟨Tryz.call178⟩|refine cpe hwr ?_|exact⟨Tryz.call180⟩|refine cpe hsa ?_|exact⟨Tryz.call179⟩|refine cpe u7 ?_|(rw[if_pos (by assumption)]at hR;rw[<-hR];exact qsq _)|(refine Qb (j+1,⟨nk,nr++x.text++[10],nf⟩,rec,out) ⟨?_,by simp only;omega,?_⟩)|exact cSd|apply qd []|refine exr ?_|refine qg ?_)
       all_goals first|grind [outR]|(simp[outR,kq, *]at hR⊢;done)|(simp[outR,kq, *]at hR⊢;omega)
    .have e:(L.drop j).map wo=[]:=by rw[Qv Om];rfl
     rw[e,refL]at hR;rw[<-hR];apply qf [];repeat' (first|apply Qa|(intro h;try exact cDd)|exact cSd|apply qd []|refine exr ?_|refine qg ?_)
     all_goals first|grind [outR]|(simp[outR,kq, *]at hR⊢;done)|(simp[outR,kq, *]at hR⊢;omega)
theorem q4d(b:List qp):qil (zr b):=λy hy=>by
 simp only[AV.cells,Qh,Qt,or_false]at hy;subst hy;exact qc6 _
theorem q2c(bs:List (List qp)):Pure (qbj bs):=qaz λx hx=>by
 obtain⟨b,_,rfl⟩:=Ze.1 hx;exact q4d b
theorem qcr(es:List Int):Pure (wn es):=qaz λx hx=>by
 obtain⟨b,_,rfl⟩:=Ze.1 hx;intro y hy;simp only[AV.cells,Qh,Qt,or_false]at hy;subst hy;exact qt _
theorem qe9(b:j5):Pure (qbd b):=qnw λx hx=>by
 simp only[Qh,Qt,or_false]at hx;rcases hx with rfl|rfl|rfl|rfl|rfl
 .exact qt _
 .exact qt _
 .exact q2c _
 .exact qcr _
 .exact qt _
def qql(x:ErrV×j5):AV:=.tu [qbd x.2,errA x.1]
theorem q7z(x:ErrV×j5):Pure (qql x):=kc (qe9 _) (ku _)
theorem q83(text:qc)(st:List AObj)(hl:60000<text.length)(h2:text.length<1000000):qr E 64 [Sv text] st λr st'=>r=.tu [vr [],errA (.num 1)]∧st'=st:=by
 refine zj [.s text] (kc (qc9 _) (ku _)) Tryz.func64 rfl rfl (λ_=>rfl) rfl λS0=>?_;apply qf [];repeat' (first|apply Qa|(intro h;try exact cDd)|exact cSd|apply qd []|refine exr ?_|refine qg ?_)
def itsE(text:qc):List zh:=if 60000<text.length then []else(ji text).2
theorem q1u(text:qc)(st:List AObj)(hl:text.length<1000000):qr E 64 [Sv text] st λr st'=>r=.tu [vr (itsE text),errA (jw text)]∧st'=st:=by
 unfold jw itsE;by_cases hb:60000<text.length
 .rw[if_pos hb,if_pos hb]
  exact q83 text st hb hl
 .rw[if_neg hb,if_neg hb]
  have:=qu4 text st Om;unfold qey at this;rcases hp:(ji text).1 with _|⟨x,y⟩
  .rw[hp]at this
   exact this
  .rw[hp]at this
   exact this
theorem q3x(gen:Int)(base text:qc)(a:Nat)(hl:text.length<1000000)(ha:a<=text.length)(r:SV)(bq:List (Nat×Option SR))(nx1:Nat)(R:Bool×List (List qp)×List Int×qc)(hR:Go.Pl.recsF (text.length+1) (text.drop a) a [] []=R)
  (hok:R.1=false->r=.a (.v .nilIface)∧bq=[(0,some (.cells 26 [.i gen,.s base,.tp 1,.tp 2,.s R.2.2.2])),(1,some (.tip 1 42 (R.2.1.map zr))),(2,some (.tip 1 3 (R.2.2.1.map λx=>Iv x)))]∧nx1=3)
  (dr:R.1=true->r=.a (errA (.at' R.2.1.length 10))∧bq=[]∧nx1=1):va E 65 [.bx 0 0,.s text,.i a] 1 (hpF [(0,some (.cells 26 [.i gen,.s base,.a zn,.a zn,.s []]))]) ⟨r,kr [(0,some (.cells 26 [.i gen,.s base,.a zn,.a zn,.s []]))],bq++vv [(0,some (.cells 26 [.i gen,.s base,.a zn,.a zn,.s []]))],nx1⟩:=by
 refine xl [.bx 0 0,.s text,.i a] [(0,some (.cells 26 [.i gen,.s base,.a zn,.a zn,.s []]))] 1 r bq nx1 Tryz.func65 rfl rfl rfl ?_ λS F ρ=>?_
 .cases h:R.1 with
  |false=>obtain⟨rfl,rfl,rfl⟩:=hok h;rfl
  |true=>obtain⟨rfl,rfl,rfl⟩:=dr h;rfl
 apply qf [];repeat' (first|apply Qa|(intro h;try exact cDd)|exact cSd|apply qd []|refine exr ?_|refine qg ?_)
 refine zx (X:=Nat×Nat×List (List qp)×List Int) (λ(k,f,bs,es)=>⟨[(0,.bx 0 0),(1,.s text),(2,.i k)],[(0,some (.cells 26 [.i gen,.s base,.tp 1,.tp 2,.s []])),(1,some (.tip 1 42 (bs.map zr))),(2,some (.tip 1 3 (es.map λx=>Iv x)))],3⟩)
  (λ(k,f,bs,es)=>k<=text.length∧text.length-k<f∧Go.Pl.recsF f (text.drop k) k bs es=R∧bs.length<=k∧es.length<=k) (λx=>text.length-x.1) (a,text.length+1,[],[]) ⟨ha,Om,hR,Sx,Sx⟩ ?_ ?_
 .skip
  repeat' (first|apply Qa|(intro h;try exact cDd)|exact cSd|apply qd []|refine exr ?_|refine qg ?_)
 .rintro⟨k,f,bs,es⟩ ⟨hk,hf,hR,dn,nq⟩
  obtain⟨f,rfl⟩:∃f',f=f'+1:=⟨f-1,Om⟩;have p7:=λst=>zol (text.drop k) st So;have lj:(text.drop k).length=text.length-k:=Sx
  have hbd:=qp3 (l:=text.drop k);have mq:=λst=>zh9 (zi (text.drop k)).2.1 st Om;rcases qxj (text.drop k)with h1|h2|h3
  .rw[h1]at p7
   obtain⟨n',nw,hn0',pk⟩:=q1j h1
   cases gf:decF (zi (text.drop k)).2.1 with
   |none=>
    rw[q1k h1 gf]at hR;rw[gf]at mq;subst hR;obtain⟨rfl,rfl,rfl⟩:=dr rfl;apply qf [];repeat' (first|apply Qa|(intro h;try exact cDd)|exact⟨Tryz.call117⟩|refine cpe p7 ?_|exact⟨Tryz.call118⟩|refine cpe mq ?_|exact cSd|apply qd []|refine exr ?_|refine qg ?_)
    rw[Zi]
    rfl
   |some b=>
    rw[qxm h1 gf nw]at hR;rw[gf]at mq;rw[nw]at p7;apply qf [];repeat' (first|apply Qa|(intro h;try exact cDd)|exact⟨Tryz.call117⟩|refine cpe p7 ?_|exact⟨Tryz.call118⟩|refine cpe mq ?_|(refine Qb (k+n',f,bs++[b],es++[((k+n':Nat):Int)]) ⟨?_,by simp only;omega,?_⟩)|exact cSd|apply qd []|refine exr ?_|refine qg ?_)
    all_goals first|(rw[<-hR,Qk,Qd];done)|(simp;done)
  .rw[h2]at p7
   rw[qxn h2]at hR;subst hR;obtain⟨rfl,rfl,rfl⟩:=hok rfl
   cases gf:decF (zi (text.drop k)).2.1<;>rw[gf]at mq
   all_goals
    apply qf [];repeat' (first|apply Qa|(intro h;try exact cDd)|exact⟨Tryz.call117⟩|refine cpe p7 ?_|exact⟨Tryz.call118⟩|refine cpe mq ?_|exact cSd|apply qd []|refine exr ?_|refine qg ?_)
  .rw[h3]at p7
   rw[q1l h3]at hR;subst hR;obtain⟨rfl,rfl,rfl⟩:=dr rfl
   cases gf:decF (zi (text.drop k)).2.1<;>rw[gf]at mq
   all_goals
    apply qf [];repeat' (first|apply Qa|(intro h;try exact cDd)|exact⟨Tryz.call117⟩|refine cpe p7 ?_|exact⟨Tryz.call118⟩|refine cpe mq ?_|exact cSd|apply qd []|refine exr ?_|refine qg ?_)
   all_goals
    rw[Zi];rfl
theorem q9i(text:qc)(st:List AObj)(hl:text.length<1000000):qr E 35 [Sv text] st λr st'=>r=qql (jj text)∧st'=st:=by
 refine zj [.s text] (q7z _) Tryz.func35 rfl rfl (λ_=>rfl) rfl λS0=>?_;by_cases u0:120000<text.length
 .have e:jj text=(.num 1,qao):=if_pos u0
  rw[e];apply qf [];repeat' (first|apply Qa|(intro h;try exact cDd)|exact cSd|apply qd []|refine exr ?_|refine qg ?_)
 have r8:=qjb text
 have dj:(wu text).2.length<=text.length:=by
  conv=>rhs;rw[r8.1]
  simp
 have dn:=qqi (wu text).2;obtain⟨g,rest,i6⟩:∃g rest,wu text=(g,rest):=⟨_,_,rfl⟩
 have hF:jj text=match jw (rest.take (je rest.length rest))with
   |.no=>if(Go.Pl.recsF (text.length+1) (rest.drop (je rest.length rest)) (((text.length-rest.length+je rest.length rest:Nat)):Int) [] []).1=true then(.at' (Go.Pl.recsF (text.length+1) (rest.drop (je rest.length rest)) (((text.length-rest.length+je rest.length rest:Nat)):Int) [] []).2.1.length 10,qao)
    else(.no,⟨g,rest.take (je rest.length rest),(Go.Pl.recsF (text.length+1) (rest.drop (je rest.length rest)) (((text.length-rest.length+je rest.length rest:Nat)):Int) [] []).2.1,(Go.Pl.recsF (text.length+1) (rest.drop (je rest.length rest)) (((text.length-rest.length+je rest.length rest:Nat)):Int) [] []).2.2.1,(Go.Pl.recsF (text.length+1) (rest.drop (je rest.length rest)) (((text.length-rest.length+je rest.length rest:Nat)):Int) [] []).2.2.2⟩)
   |e=>(e,qao):=by
  unfold jj;rw[if_neg u0];unfold qd5 qhm atH qcy;rw[i6]
  try rfl
 have htk2:∀st,qr E 62 [Sv text] st λr st'=>r=.tu [Iv g,Sv rest]∧st'=st:=λst=>by
  have:=zl3 text st hl;rw[i6]at this;exact this
 rw[i6]at dj dn r8;simp only at dj dn r8
 have hdr:rest.drop (je rest.length rest)=text.drop (text.length-rest.length+je rest.length rest):=by
  have h1:text.length=(wa g).length+rest.length:=by
   have:=congrArg Qo r8.1
   simpa using this
  conv=>rhs;rhs;rw[r8.1]
  rw[<-Qd,show text.length-rest.length=(wa g).length by omega,Qi]
 rw[hdr]at hF;clear hdr r8 i6;have hbg:=λst=>zhx rest st Om;generalize je rest.length rest=a at hF dn hbg;have lq:=λst=>q1u (rest.take a) st So;have hsub:((text.length:Int)-(rest.length:Int))+(a:Int)=((text.length-rest.length+a:Nat):Int):=Om
 rw[show(((text.length-rest.length+a:Nat)):Int)=(((text.length-rest.length+a:Nat)):Int) from rfl]at hF;obtain⟨R,hR⟩:∃R,Go.Pl.recsF (text.length+1) (text.drop (text.length-rest.length+a)) ((text.length-rest.length+a:Nat):Int) [] []=R:=⟨_,rfl⟩;rw[hR]at hF;have hok:=λh=>q3x g (rest.take a) text (text.length-rest.length+a) hl Om (.a (.v .nilIface)) [(0,some (.cells 26 [.i g,.s (rest.take a),.tp 1,.tp 2,.s R.2.2.2])),(1,some (.tip 1 42 (R.2.1.map zr))),(2,some (.tip 1 3 (R.2.2.1.map λx=>Iv x)))] 3 R hR (λ_=>⟨rfl,rfl,rfl⟩) h;have dr:=λh=>q3x g (rest.take a) text (text.length-rest.length+a) hl Om (.a (errA (.at' R.2.1.length 10))) [] 1 R hR h (λ_=>⟨rfl,rfl,rfl⟩);generalize itsE (rest.take a)=its at lq
 cases lv:jw (rest.take a)with
 |no=>
  rw[lv]at hF lq;simp only at hF;by_cases nj:R.1=true
  .rw[if_pos nj]at hF
   rw[hF];apply qf [];repeat' (first|apply Qa|(intro h;try exact cDd)|exact⟨Tryz.call62⟩|refine cpe htk2 ?_|exact⟨Tryz.call63⟩|refine cpe hbg ?_|exact⟨Tryz.call64⟩|refine cpe lq ?_|exact⟨Tryz.call65⟩|(refine jm (dr λh=>by rw[nj]at h;simp at h) ?_)|exact cSd|apply qd []|refine exr ?_|refine qg ?_)
   all_goals exact congrArg Iv hsub
  .rw[if_neg nj]at hF
   rw[hF];apply qf [];repeat' (first|apply Qa|(intro h;try exact cDd)|exact⟨Tryz.call62⟩|refine cpe htk2 ?_|exact⟨Tryz.call63⟩|refine cpe hbg ?_|exact⟨Tryz.call64⟩|refine cpe lq ?_|exact⟨Tryz.call65⟩|(refine jm (hok λh=>absurd h nj) ?_)|exact cSd|apply qd []|refine exr ?_|refine qg ?_)
   all_goals exact congrArg Iv hsub
 |num n=>
  rw[lv]at hF lq;have hF2:jj text=(.num n,qao):=hF;rw[hF2];apply qf []
  repeat' (first|apply Qa|(intro h;try exact cDd)|exact⟨Tryz.call62⟩|refine cpe htk2 ?_|exact⟨Tryz.call63⟩|refine cpe hbg ?_|exact⟨Tryz.call64⟩|refine cpe lq ?_|exact cSd|apply qd []|refine exr ?_|refine qg ?_)
 |at' p n=>
  rw[lv]at hF lq;have hF2:jj text=(.at' p n,qao):=hF;rw[hF2];apply qf [];repeat' (first|apply Qa|(intro h;try exact cDd)|exact⟨Tryz.call62⟩|refine cpe htk2 ?_|exact⟨Tryz.call63⟩|refine cpe hbg ?_|exact⟨Tryz.call64⟩|refine cpe lq ?_|exact cSd|apply qd []|refine exr ?_|refine qg ?_)
theorem q4z(n:Int):(wa n).length<=100:=by
 unfold wa;split
 .rename_i h
  have:=q02 h;omega
 .simp
theorem zh2(b:j5)(st:List AObj)(hb:b.base.length<1000000)(he:b.ends.length<1000000):qr E 24 [qbd b] st λr st'=>r=Iv (qc2 b)∧st'=st:=by
 have hh:=q4z b.gen;have d7:=λst=>ze7 b.gen st;refine zj [.a (qbd b)] (qt _) Tryz.func24 rfl rfl (λ_=>rfl) rfl λS0=>?_;by_cases h0:b.ends=[]
 .have e:qc2 b=((wa b.gen).length:Int)+(b.base.length:Int):=by simp[qc2,h0]
  rw[e];have hl0:(b.ends.map λx=>Iv x).length=0:=by simp[h0]
  apply qf [];repeat' (first|apply Qa|(intro h;try exact cDd)|exact⟨Tryz.call52⟩|refine cpe d7 ?_|exact cSd|apply qd []|refine exr ?_|refine qg ?_)
 .obtain⟨x,hx⟩:∃x,b.ends.getLast?=some x:=by
   cases h:b.ends.getLast? with
   |none=>exact absurd (List.getLast?_eq_none_iff.1 h) h0
   |some x=>exact⟨x,rfl⟩
  have e:qc2 b=x:=by simp[qc2,hx]
  rw[e];have hl0:0<b.ends.length:=Qg.2 h0;have o0:(b.ends.map λx=>Iv x).length=b.ends.length:=Sx
  have hg:(b.ends.map λx=>Iv x)[b.ends.length-1]?=some (Iv x):=by
   rw[Zd]at hx;simp[hx]
  apply qf [];repeat' (first|apply Qa|(intro h;try exact cDd)|exact⟨Tryz.call52⟩|refine cpe d7 ?_|(refine Qb (b.ends.length-1) ⟨Om,_,hg,?_⟩)|exact cSd|apply qd []|refine exr ?_|refine qg ?_)
theorem q1m:∀r:List (List qp),r.length<=(vj r).length
 | []=>by simp[vj]
 |b::r=>by
  have:=q1m r;have h1:=qu0 b;rw[qa4];simp;omega
structure zoy (text:qc) (b:j5):Prop where
 base:b.base.length<1000000
 tail:b.tail.length<1000000
 ends : b.ends.length < 1000000
 whole:qc2 b=((qau b).length:Int)
 wlen:(qau b).length<=text.length
 size:qc2 b+b.tail.length=text.length
theorem q70{text:qc}{b:j5}(h:xy text b):zoy text b:=by
 have h1:=congrArg Qo h.split;have h2:=h.len;have h3:=q1m b.batches;have h4:=h.whole;simp only[Qu,qau]at h1;refine⟨Om,Om,by rw[h.ends,qk3];omega,h4,by simp only[qau,Qu];omega,?_⟩;rw[h4];simp only[qau,Qu];omega
theorem zd6(text:qc)(x:List qp)(st:List AObj)(hl:text.length<1000000)(hB:∀y∈x,EdB y)(hx:x.length<1000000):qr E 34 [Sv text,zr x] st λr st'=>r=.tu [Sv (Go.Pl.appF text x).2,errA (Go.Pl.appF text x).1]∧st'=st:=by
 refine zj [.s text,.a (zr x)] (kc (qt _) (ku _)) Tryz.func34 rfl rfl (λ_=>rfl) rfl λS0=>?_;have bn:=λst=>q9i text st hl;unfold Go.Pl.appF;have sb:jj text=((jj text).1,(jj text).2):=rfl
 cases bd:(jj text).1 with
 |no=>
  rw[bd]at sb;have hT:=qkz sb;have hS:=q70 hT;obtain⟨rg,sm,hs3,hs4,hs5,hs6⟩:=hS;rw[sb]at bn;generalize(jj text).2=b at bn hT rg sm hs3 hs4 hs5 hs6;unfold qql at bn;have hwh:=λst=>zh2 b st rg hs3;rw[hs4]at hwh;simp only[hs4,Qr];have htl:=hT.len
  cases hee:eErr x with
  |no=>
   have bg:=λst=>q0p x st hB hee;by_cases h5:50000<(encF x).length
   .simp only[if_pos h5]
    apply qf [];repeat' (first|apply Qa|(intro h;try exact cDd)|exact⟨Tryz.call35⟩|refine cpe bn ?_|exact⟨Tryz.call60⟩|refine cpe bg ?_|exact cSd|apply qd []|refine exr ?_|refine qg ?_)
   .simp only[if_neg h5]
    have sk:qe3 x:=⟨hee,hB,Om⟩;have hrc:=λst=>zf6 (encF x) st Om sk.good;have dj:=zcy sk.good;have hre:recF (encF x)=recE x:=rfl;rw[hre]at hrc dj;by_cases h12:(120000:Int)<((qau b).length:Int)+((recE x).length:Int)
    .rw[if_pos h12]
     apply qf [];repeat' (first|apply Qa|(intro h;try exact cDd)|exact⟨Tryz.call35⟩|refine cpe bn ?_|exact⟨Tryz.call60⟩|refine cpe bg ?_|exact⟨Tryz.call61⟩|refine cpe hrc ?_|exact⟨Tryz.call24⟩|refine cpe hwh ?_|exact cSd|apply qd []|refine exr ?_|refine qg ?_)
    .rw[if_neg h12]
     apply qf []
     repeat' (first|apply Qa|(intro h;try exact cDd)|exact⟨Tryz.call35⟩|refine cpe bn ?_|exact⟨Tryz.call60⟩|refine cpe bg ?_|exact⟨Tryz.call61⟩|refine cpe hrc ?_|exact⟨Tryz.call24⟩|refine cpe hwh ?_|exact cSd|apply qd []|refine exr ?_|refine qg ?_)
  |num n=>
   have bg:=λst=>ql7 x st _ hB Om hee (λh=>by have:=(qep x).1 (by rw[hee];exact h);rw[hee]at this;simp at this);apply qf []
   repeat' (first|apply Qa|(intro h;try exact cDd)|exact⟨Tryz.call35⟩|refine cpe bn ?_|exact⟨Tryz.call60⟩|refine cpe bg ?_|exact cSd|apply qd []|refine exr ?_|refine qg ?_)
  |at' p n=>
   have bg:=λst=>ql7 x st _ hB Om hee (λh=>by have:=(qep x).1 (by rw[hee];exact h);rw[hee]at this;simp at this);apply qf []
   repeat' (first|apply Qa|(intro h;try exact cDd)|exact⟨Tryz.call35⟩|refine cpe bn ?_|exact⟨Tryz.call60⟩|refine cpe bg ?_|exact cSd|apply qd []|refine exr ?_|refine qg ?_)
 |num n=>
  rw[bd]at sb;rw[sb]at bn;unfold qql at bn;apply qf []
  repeat' (first|apply Qa|(intro h;try exact cDd)|exact⟨Tryz.call35⟩|refine cpe bn ?_|exact cSd|apply qd []|refine exr ?_|refine qg ?_)
 |at' p n=>
  rw[bd]at sb;rw[sb]at bn;unfold qql at bn;apply qf [];repeat' (first|apply Qa|(intro h;try exact cDd)|exact⟨Tryz.call35⟩|refine cpe bn ?_|exact cSd|apply qd []|refine exr ?_|refine qg ?_)
def cutL:List LnV->Int->Int
 | [],d=>d
 |x::r,d=>if begF x.text=true then(x.at':Int)else cutL r d
theorem q9m:∀(n:Nat)(l:qc)(k a N:Nat),l.length<=n->(l=[]∨a+l.length=N)->cutL (vz k a l) N=((je N l:Nat):Int)
 |n,l,k,a,N,hn,ha=>by
  by_cases h:l=[]
  .subst h
   rw[qbf,qe8]
   try rfl
  .have d8:=xp (c:=10) h
   have d7:a+l.length=N:=ha.resolve_left h
   cases n with
   |zero=>omega
   |succ n=>
    rw[qbm h,cutL];by_cases hb:begF (upto 10 l)=true
    .rw[if_pos hb,qj9 h hb]
     simp only;omega
    .rw[if_neg hb,ql1 h hb]
     refine q9m n (past 10 l) (k+1) _ N Om ?_;by_cases g9:10∈l
     .right
      have e:=congrArg Qo (wl g9);simp only[Qu,Zs,Zf]at e;omega
     .left
      unfold past;rw[xx g9];exact Qv Om
theorem q6q(text:qc):∃its,qcv text=.tu [vr its,Iv (jw text).pos,Iv (jw text).code]:=by
 unfold qcv jw;split
 .exact⟨[],rfl⟩
 .rcases(ji text).1 with _|⟨a,n⟩
  .exact⟨_,rfl⟩
  .exact⟨[],rfl⟩
def qdc(x:ErrV×j5):AV:=.tu [qbd x.2,Iv x.1.pos,Iv x.1.code]
theorem q2j(x:ErrV×j5):Pure (qdc x):=qad (qe9 _) (qt _) (qt _)
theorem qph:∀(r:List (qc×Bool))(i:Nat)(prev:Bool)(now:zh)(rec:Int)(out:List zh)(e:Int×Int),(refL i r prev now rec out).1=some e->e.2≠0
 | [],i,prev,now,rec,out,e,h=>by simp[refL]at h
 |(t,b)::r,i,prev,now,rec,out,e,h=>by
  rw[refL]at h;split at h
  .rename_i hw
   simp only[Zq]at h;subst h;exact hw
  .split at h
   .exact qph r _ _ _ _ _ e h
   .split at h
    .exact qph r _ _ _ _ _ e h
    .exact qph r _ _ _ _ _ e h
theorem qo6{text:qc}{n:Int}(h:jw text=.num n):n=1:=by
 unfold jw at h;split at h
 .simpa using h.symm
 .split at h<;>simp at h
theorem qrh{text:qc}{a n:Int}(h:jw text=.at' a n):n≠0:=by
 unfold jw at h;split at h
 .simp at h
 .split at h
  .simp at h
  .rename_i a' n' hp
   simp only[ErrV.at'.injEq]at h;rw[<-h.2];have:=qei text;exact qph _ _ _ _ _ _ (a',n') (by rw[this];exact hp)
theorem qrr(text:qc)(hl:text.length<1000000):∃its p n,(∀st,qr E 128 [Sv text] st λr st'=>r=.tu [vr its,Iv p,Iv n]∧st'=st)∧p=(jw text).pos∧n=(jw text).code∧(n=0↔jw text=.no):=by
 obtain⟨its,hits⟩:=q6q text;refine⟨its,_,_,λst=>by rw[<-hits];exact qrq text st hl,rfl,rfl,?_⟩
 cases lv:jw text with
 |no=>simp[ErrV.code]
 |num n=>have:=qo6 lv;simp[ErrV.code];omega
 |at' a n=>have:=qrh lv;simp[ErrV.code];omega
theorem q6l(x:Option (List qp)):∃b o,qdo x=.tu [zr b,Bv o]:=by
 cases x with
 |none=>exact⟨[],false,rfl⟩
 |some b=>exact⟨b,true,rfl⟩
set_option maxHeartbeats 1000000 in
theorem q8w(text:qc)(st:List AObj)(hl:text.length<1000000):qr E 75 [Sv text] st λr st'=>r=qdc (jj text)∧st'=st:=by
 refine zj [.s text] (q2j _) Tryz.func75 rfl rfl (λ_=>rfl) rfl λS0=>?_;by_cases u0:120000<text.length
 .have e:jj text=(.num 1,qao):=if_pos u0
  rw[e];apply qf [];repeat' (first|apply Qa|(intro h;try exact cDd)|exact cSd|apply qd []|refine exr ?_|refine qg ?_)
 have r8:=qjb text
 have dj:(wu text).2.length<=text.length:=by
  conv=>rhs;rw[r8.1]
  simp
 have dn:=qqi (wu text).2;obtain⟨g,rest,i6⟩:∃g rest,wu text=(g,rest):=⟨_,_,rfl⟩
 have hF:jj text=match jw (rest.take (je rest.length rest))with
   |.no=>if(Go.Pl.recsF (text.length+1) (rest.drop (je rest.length rest)) (((text.length-rest.length+je rest.length rest:Nat)):Int) [] []).1=true then(.at' (Go.Pl.recsF (text.length+1) (rest.drop (je rest.length rest)) (((text.length-rest.length+je rest.length rest:Nat)):Int) [] []).2.1.length 10,qao)
    else(.no,⟨g,rest.take (je rest.length rest),(Go.Pl.recsF (text.length+1) (rest.drop (je rest.length rest)) (((text.length-rest.length+je rest.length rest:Nat)):Int) [] []).2.1,(Go.Pl.recsF (text.length+1) (rest.drop (je rest.length rest)) (((text.length-rest.length+je rest.length rest:Nat)):Int) [] []).2.2.1,(Go.Pl.recsF (text.length+1) (rest.drop (je rest.length rest)) (((text.length-rest.length+je rest.length rest:Nat)):Int) [] []).2.2.2⟩)
   |e=>(e,qao):=by
  unfold jj;rw[if_neg u0];unfold qd5 qhm atH qcy;rw[i6]
  try rfl
 have htk2:∀st,qr E 125 [Sv text] st λr st'=>r=.tu [Iv g,Sv rest]∧st'=st:=λst=>by
  have:=q8z text st hl;rw[i6]at this;exact this
 rw[i6]at dj dn r8;simp only at dj dn r8
 have hdr:rest.drop (je rest.length rest)=text.drop (text.length-rest.length+je rest.length rest):=by
  have h1:text.length=(wa g).length+rest.length:=by
   have:=congrArg Qo r8.1
   simpa using this
  conv=>rhs;rhs;rw[r8.1]
  rw[<-Qd,show text.length-rest.length=(wa g).length by omega,Qi]
 rw[hdr]at hF;clear hdr r8 i6;have hspl:=λst=>qkk rest st Om;have hcut:cutL (lns rest) rest.length=((je rest.length rest:Nat):Int):=q9m _ rest 0 0 rest.length (Qe _) (.inr Om);have hLl:(lns rest).length<=rest.length:=qdu _ rest 0 0 (Qe _);have hLv:∀x∈lns rest,x.text.length<=rest.length:=λx hx=>qw6 _ rest 0 0 (Qe _) x hx;generalize lns rest=L at hspl hcut hLl hLv;generalize je rest.length rest=a at hF dn hcut;have o0:(L.map lnA).length=L.length:=Sx
 apply qf [];repeat' (first|apply Qa|(intro h;try exact cDd)|exact⟨Tryz.call125⟩|refine cpe htk2 ?_|exact⟨Tryz.call126⟩|refine cpe hspl ?_|exact cSd|apply qd []|refine exr ?_|refine qg ?_)
 refine zx (X:=Nat) (λk=>⟨[(0,.s text),(2,.bx 0 0),(5,.i g),(6,.s rest),(7,.a (lnsA L)),(8,.i (cutL (L.drop k) rest.length)),(9,.i ((k:Int)-1))],[(0,some (.cells 105 [.i 0,.s [],.a zn,.a zn,.s []]))],1⟩) (λk=>k<=L.length) (λk=>k) L.length (Qe _) ?_ ?_
 .skip
  repeat' (first|apply Qa|(intro h;try exact cDd)|exact cSd|apply qd []|refine exr ?_|refine qg ?_)
  all_goals first|(simp[cutL];done)
 .intro k hk
  cases k with
  |succ j=>
   obtain⟨x,hx⟩:∃x,L[j]?=some x:=⟨_,Qc Om⟩;have sk:=qks hx;have hxv:=hLv x (Qm hx);have bd:=λst=>q6i x.text st Om
   have hdj:L.drop j=x::L.drop (j+1):=by
    obtain⟨d8,e⟩:=Qy.1 hx;rw[Qf d8,e]
   apply qf [];repeat' (first|apply Qa|(intro h;try exact cDd)|exact⟨Tryz.call127⟩|refine cpe bd ?_|(refine Qb (j) ⟨Om,_,sk,?_⟩)|(refine Qb j ⟨Om,Om,?_⟩)|exact cSd|apply qd []|refine exr ?_|refine qg ?_)
   all_goals first|(simp[hdj,cutL,begF, *];done)
  |zero=>
   have hc0:cutL (L.drop 0) rest.length=(a:Int):=by rw[Zw];exact hcut
   simp only[hc0];obtain⟨its,p,n,lq,hp,hn,gv⟩:=qrr (rest.take a) So;have hsub:((text.length:Int)-(rest.length:Int))+(a:Int)=((text.length-rest.length+a:Nat):Int):=Om
   by_cases hz:n=0
   .rw[gv.1 hz]at hF
    simp only at hF;apply qf [];repeat' (first|apply Qa|(intro h;try exact cDd)|exact⟨Tryz.call128⟩|refine cpe lq ?_|exact cSd|apply qd []|refine exr ?_|refine qg ?_)
    refine zx (X:=Nat×Nat×List (List qp)×List Int) (λ(k,f,bs,es)=>⟨[(0,.s text),(2,.bx 0 0),(10,.bx 1 0),(14,.i k)],
      [(0,some (.cells 105 [.i 0,.s [],.a zn,.a zn,.s []])),(1,some (.cells 105 [.i g,.s (rest.take a),.tp 2,.tp 3,.s []])),(2,some (.tip 1 42 (bs.map zr))),(3,some (.tip 1 3 (es.map λx=>Iv x)))],4⟩)
     (λ(k,f,bs,es)=>k<=text.length∧text.length-k<f∧Go.Pl.recsF f (text.drop k) k bs es=Go.Pl.recsF (text.length+1) (text.drop (text.length-rest.length+a)) ((text.length-rest.length+a:Nat):Int) [] []∧bs.length<=k∧es.length<=k) (λx=>text.length-x.1) (text.length-rest.length+a,text.length+1,[],[])
     ⟨Om,Om,rfl,Sx,Sx⟩ ?_ ?_
    .skip
     repeat' (first|apply Qa|(intro h;try exact cDd)|exact cSd|apply qd []|refine exr ?_|refine qg ?_)
     all_goals first|(simp[hsub];done)
    .rintro⟨k,f,bs,es⟩ ⟨hk,hf,hR,hbl2,nq⟩
     generalize Go.Pl.recsF (text.length+1) (text.drop (text.length-rest.length+a)) ((text.length-rest.length+a:Nat):Int) [] []=R at hF hR;obtain⟨f,rfl⟩:∃f',f=f'+1:=⟨f-1,Om⟩;have p7:=λst=>zgf (text.drop k) st So;have lj:(text.drop k).length=text.length-k:=Sx
     have hbd:=qp3 (l:=text.drop k);have mq:=λst=>q8r (zi (text.drop k)).2.1 st Om;rcases qxj (text.drop k)with h1|h2|h3
     .rw[h1]at p7
      obtain⟨n',nw,hn0',pk⟩:=q1j h1
      cases gf:decF (zi (text.drop k)).2.1 with
      |none=>
       rw[q1k h1 gf]at hR;rw[gf]at mq;rw[<-hR]at hF;rw[hF];apply qf [];repeat' (first|apply Qa|(intro h;try exact cDd)|exact⟨Tryz.call129⟩|refine cpe p7 ?_|exact⟨Tryz.call130⟩|refine cpe mq ?_|exact cSd|apply qd []|refine exr ?_|refine qg ?_)
       all_goals first|(simp[qdc,qao,ErrV.pos,ErrV.code];done)|(rw[<-hR,Qd,Qk];done)|(rw[<-hR,Qd,Qk];rfl)
      |some b=>
       rw[qxm h1 gf nw]at hR;rw[gf]at mq;rw[nw]at p7;apply qf [];repeat' (first|apply Qa|(intro h;try exact cDd)|exact⟨Tryz.call129⟩|refine cpe p7 ?_|exact⟨Tryz.call130⟩|refine cpe mq ?_|(refine Qb (k+n',f,bs++[b],es++[((k+n':Nat):Int)]) ⟨?_,by simp only;omega,?_⟩)|exact cSd|apply qd []|refine exr ?_|refine qg ?_)
       all_goals first|(simp[qdc,qao,ErrV.pos,ErrV.code];done)|(rw[<-hR,Qd,Qk];done)|(rw[<-hR,Qd,Qk];rfl)
     .rw[h2]at p7
      rw[qxn h2]at hR;rw[<-hR]at hF;rw[hF];apply qf [];repeat' (first|apply Qa|(intro h;try exact cDd)|exact⟨Tryz.call129⟩|refine cpe p7 ?_|exact⟨Tryz.call130⟩|refine cpe mq ?_|exact cSd|apply qd []|refine exr ?_|refine qg ?_)
      all_goals first|(simp[qdc,qao,ErrV.pos,ErrV.code];done)|(rw[<-hR,Qd,Qk];done)|(rw[<-hR,Qd,Qk];rfl)
     .rw[h3]at p7
      rw[q1l h3]at hR;rw[<-hR]at hF;rw[hF];obtain⟨b',o',hbo⟩:=q6l (decF (zi (text.drop k)).2.1);rw[hbo]at mq;apply qf [];repeat' (first|apply Qa|(intro h;try exact cDd)|exact⟨Tryz.call129⟩|refine cpe p7 ?_|exact⟨Tryz.call130⟩|refine cpe mq ?_|exact cSd|apply qd []|refine exr ?_|refine qg ?_)
      all_goals first|(simp[qdc,qao,ErrV.pos,ErrV.code];done)|(rw[<-hR,Qd,Qk];done)|(rw[<-hR,Qd,Qk];rfl)
   .have e:jj text=(jw (rest.take a),qao):=by
     rw[hF]
     cases lv:jw (rest.take a)with
     |no=>exact absurd (gv.2 lv) hz
     |_=>rfl
    rw[e];unfold qdc;simp only;rw[<-hp,<-hn];apply qf [];repeat' (first|apply Qa|(intro h;try exact cDd)|exact⟨Tryz.call128⟩|refine cpe lq ?_|exact cSd|apply qd []|refine exr ?_|refine qg ?_)
    all_goals first|(simp[qdc,qao,ErrV.pos,ErrV.code];done)|(rw[<-hR,Qd,Qk];done)|(rw[<-hR,Qd,Qk];rfl)
theorem qv3{text:qc}(h:(jj text).1≠.no):(jj text).1.code≠0:=by
 unfold jj at h⊢;split
 .simp[ErrV.code]
 .rename_i hb
  rw[if_neg hb]at h
  cases lv:jw (qhm text)with
  |no=>
   rw[lv]at h;simp only at h⊢;split
   .simp[ErrV.code]
   .rename_i hr
    rw[if_neg hr]at h
    exact absurd rfl h
  |num n=>have:=qo6 lv;simp[ErrV.code];omega
  |at' a n=>have:=qrh lv;simpa[ErrV.code]using this
theorem zlx(x:List qp):∃p n,(eErr x).pos=p∧(eErr x).code=n∧(n=0↔eErr x=.no):=⟨_,_,rfl,rfl,qep x⟩
end Go.Proofs.YtihlchbgjdkmpaaGreatDoor
namespace Go.Pl
open Go Go.Proofs
structure EntV where
 x:zh
 id:Int
structure qu where
 ents:List EntV
 next:Int
 many:Int
def x4(l:qu)(x:zh):qu:=if x.kind=3 then⟨l.ents++[⟨x,l.next⟩],l.next+1,l.many+1⟩else⟨l.ents++[⟨x,0⟩],l.next,l.many⟩
def ofF(its:List zh):qu:=its.foldl x4 ⟨[],1,0⟩
end Go.Pl
namespace Go.Proofs.YtihlchbgjdkmpaaGreatDoor
open Go Go.Av Go.RowKit Go.Proofs Go.Pl
@[reducible] def entA (e : EntV) : AV := .ag [Iv e.x.kind, Sv e.x.raw, jl e.x.fields, Iv e.id]
@[reducible] def v4 (l : qu) : AV := .pp [.sl 4 (l.ents.map entA) none, Iv l.next, Iv l.many]
def qw5(e:ErrV)(l:qu):AV:=match e with
 |.no=>.tu [v4 l,errA .no]
 |e=>.tu [.v (.pointer none),errA e]
theorem qoi(e:EntV):qil (entA e):=λy hy=>by
 simp only[AV.cells,Qh,Qt,or_false]at hy;rcases hy with rfl|rfl|rfl|rfl
 .exact qt _
 .exact qt _
 .exact qa1 _
 .exact qt _
theorem qkg(l:qu):Pure (v4 l):=qy4 λx hx=>by
 simp only[Qh,Qt,or_false]at hx;rcases hx with rfl|rfl|rfl
 .exact qaz λx hx=>by
   obtain⟨f,_,rfl⟩:=Ze.1 hx;exact qoi f
 .exact qt _
 .exact qt _
theorem qm8(e:ErrV)(l:qu):Pure (qw5 e l):=by
 cases e with
 |no=>exact kc (qkg l) (ku _)
 |num n=>exact kc (qt _) (ku _)
 |at' a n=>exact kc (qt _) (ku _)
theorem qkm:∀(n:Nat)(rest:qc)(k:Nat)(p:PSt),rest.length<=n->PB (4*k) p->k+rest.length<=60000->(runL k (zp rest) p).2.items.length<=300000:=by
 have nil:∀(k:Nat)(p:PSt),PB (4*k) p->k<=60000->(runL k (zp []) p).2.items.length<=300000:=λk p hB hk=>by
  have e:j6 p 0 [] true 1=endP p:=rfl;have h:=qlu (no:=0) (text:=[]) (ended:=true) (kind:=1) hB Om Sx;rw[e]at h;have e2:runL k (zp []) p=endP p:=by rw[vu];rfl
  rw[e2];have:=h.items;omega
 intro n
 induction n with
 |zero=>
  intro rest k p hr hB hk;obtain rfl:rest=[]:=List.eq_nil_of_length_eq_zero Om
  exact nil k p hB (by simpa using hk)
 |succ n ih=>
  intro rest k p hr hB hk;by_cases b9:rest=[]
  .subst b9
   exact nil k p hB (by simpa using hk)
  .have hu:=vk 10 rest
   have fj:=vl 10 rest;have hr0:0<rest.length:=Qg.2 b9;rw[wh b9];simp only[runL];have lz:=qu7 (no:=k) (text:=upto 10 rest) (ended:=decide (10∈rest)) hB Om Om;split
   .have:=hB.items
    simp only;omega
   .exact ih (past 10 rest) (k+1) _ Om lz Om
theorem qus(text:qc):(itsE text).length<=300000:=by
 unfold itsE;split
 .simp
 .have h:=qkm text.length text 0 p0 (Qe _) zcs Om
  unfold ji;split
  .simp
  .exact h
theorem zi4(text:qc)(st:List AObj)(hl:text.length<1000000):qr E 66 [Sv text] st λr st'=>r=qw5 (jw text) (ofF (itsE text))∧st'=st:=by
 refine qpc [.s text] (qm8 _ _) Tryz.func66 rfl rfl (λ_=>rfl) rfl λS0=>?_;have hp:=λst=>q1u text st hl;have dg:=qus text;generalize itsE text=its at hp dg
 cases he:jw text with
 |num n=>
  rw[he]at hp;apply qf [19]
  repeat' (first|apply Qa|(intro h;try exact cDd)|exact⟨Tryz.call64⟩|refine cpe hp ?_|exact cSd|apply qd [19]|refine exr ?_|refine qg ?_)
 |at' a n=>
  rw[he]at hp;apply qf [19]
  repeat' (first|apply Qa|(intro h;try exact cDd)|exact⟨Tryz.call64⟩|refine cpe hp ?_|exact cSd|apply qd [19]|refine exr ?_|refine qg ?_)
 |no=>
  rw[he]at hp;apply qf [19];repeat' (first|apply Qa|(intro h;try exact cDd)|exact⟨Tryz.call64⟩|refine cpe hp ?_|exact cSd|apply qd [19]|refine exr ?_|refine qg ?_)
  refine zx (X:=Nat×qu) (λ(k,l)=>⟨[(6,.bx 0 0),(20,.a (vr its)),(21,.i its.length),(22,.i k)],[(0,some (.cells 144 [.tp 1,.i l.next,.i l.many])),(1,some (.tip 4 100 (l.ents.map entA)))],2⟩)
   (λ(k,l)=>k<=its.length∧l.ents.length=k∧(1<=l.next∧l.next<=k+1∧0<=l.many∧l.many<=k)∧(its.drop k).foldl x4 l=ofF its) (λ(k,l)=>its.length-k) (0,⟨[],1,0⟩) ⟨Om,rfl,⟨by decide,by decide,by decide,by decide⟩,rfl⟩ ?_ ?_
  .skip
   repeat' (first|apply Qa|(intro h;try exact cDd)|exact cSd|apply qd []|refine exr ?_|refine qg ?_)
   all_goals (simp;done)
  .rintro⟨k,l⟩ ⟨hk,sw,bv,a8⟩
   by_cases e9:k<its.length
   .have hx:its[k]?=some its[k]:=Qc e9
    have i3:(its.map kq)[k]?=some (kq its[k]):=by rw[Zr,hx];rfl
    rw[Qf e9,List.foldl_cons]at a8;have o0:(l.ents.map entA).length=l.ents.length:=Sx
    generalize its[k]=x at hx i3 a8;by_cases gk:x.kind=3
    .have e:x4 l x=⟨l.ents++[⟨x,l.next⟩],l.next+1,l.many+1⟩:=if_pos gk
     rw[e]at a8;apply qf [];repeat' (first|apply Qa|(intro h;try exact cDd)|(refine Qb (k) ⟨Om,_,i3,?_⟩)|(refine Qb (k+1,⟨l.ents++[⟨x,l.next⟩],l.next+1,l.many+1⟩) ⟨⟨Om,by simp[sw],by simp only;omega,a8⟩,by simp only;omega,?_⟩)|exact cSd|apply qd []|refine exr ?_|refine qg ?_)
     all_goals (simp;done)
    .have e:x4 l x=⟨l.ents++[⟨x,0⟩],l.next,l.many⟩:=if_neg gk
     rw[e]at a8;apply qf [];repeat' (first|apply Qa|(intro h;try exact cDd)|(refine Qb (k) ⟨Om,_,i3,?_⟩)|(refine Qb (k+1,⟨l.ents++[⟨x,0⟩],l.next,l.many⟩) ⟨⟨Om,by simp[sw],by simp only;omega,a8⟩,by simp only;omega,?_⟩)|exact cSd|apply qd []|refine exr ?_|refine qg ?_)
     all_goals (simp;done)
   .have e9:k=its.length:=by omega
    subst e9;rw[Zu]at a8;have e:ofF its=l:=a8.symm;rw[e];apply qf [];repeat' (first|apply Qa|(intro h;try exact cDd)|exact cSd|apply qd []|refine exr ?_|refine qg ?_)
end Go.Proofs.YtihlchbgjdkmpaaGreatDoor
namespace Go.Av
open Go Go.RowKit
theorem qmx{E:Env}{rd:Option Nat}{N:Nat}{ops:Array Oper}{K:AS->Prop}{s:AS}{rest:List Oper}{d:Option Tmp}{T:TypeId}{p:String}{af:Array Edge}{x:Operand}{t t' te:TypeId}{sz:Nat}{xs:List AV}{tip:Option Nat}(hx:qn N s x=.sl sz xs tip)(hu:E.P.underlying t=some (.slice te))
  (h1:xs=[]->AOps E rd N ops rest K (s.put d (Bv true))) (h2:AOps E rd N ops rest K (s.put d (Bv false))):AOps E rd N ops (⟨d,.binOp .eql t x (.const (.slice none 0 0)) t',T,p,af,none⟩::rest) K s:=by
 refine ze rfl (za nofun λB0 w0 G a w _ hI=>?_);have he:=hI.eval_of hx
 have key:∃q n c,a.eval x=.slice q n c∧(q.isNone=true->xs=[]):=by
  generalize a.eval x=u at he
  cases he with
  |sl0=>exact⟨_,_,_,rfl,λ_=>rfl⟩
  |sl=>exact⟨_,_,_,rfl,λh=>by simp at h⟩
 obtain⟨q,n,c,hv,hq0⟩:=key;have hc:a.eval (.const (.slice none 0 0))=.slice none 0 0:=rfl;have hq:=Lib.run_eql_slice_nil (P:=E.P) w t te q n c 0 0 hu;refine⟨_,w,G,.v (.bool q.isNone),s.st,?_,.refl G,hI.agree,.v _,?_⟩
 .generalize a.eval=ρ at hv hc
  simp[execOp,hv,hc,eqGuard_at_slice,hq]
 .cases hb:q.isNone with
  |true=>exact h1 (hq0 hb)
  |false=>exact h2
theorem qd7.len0{c:AV}(h:qd7 c):∀(G:Gh)(v:Value),Rel G c v->∃b n cp,v=.slice b n cp∧n<=cp:=λG v hv=>by
 obtain⟨base,rfl⟩:=h.val G v hv;exact⟨_,_,_,rfl,Qe _⟩
end Go.Av
namespace Go.Proofs.YtihlchbgjdkmpaaGreatDoor
open Go Go.Av Go.RowKit Go.Proofs Go.Pl
theorem qho(fs:List Fld)(st:List AObj)(hl:fs.length<1000000):qr E 40 [jl fs] st λr st'=>r=jl fs∧st'=st:=by
 refine q5 (qa1 _) (qs Tryz.func40 rfl (Qw rfl) ?_);have o0:(fs.map fldA).length=fs.length:=Sx
 rw[Qj];repeat' (first|(apply qdx (st:=st);(iterate 6 exact rfl))|(apply qmx;exact rfl;exact rfl;intro h0)|apply qq|apply qh|apply qj|apply ql|apply qi|(apply qe;exact rfl;apply cd_t;exact cRa)|(apply qe;exact rfl;apply cd_f;exact cRa)|apply qz|apply qw|(apply qkx (b:=st.length) (xs:=[]) (ys:=fs.map fldA) (bytes:=32);(iterate 5 exact rfl);exact⟨⟨_,_,rfl,rfl,rfl,rfl,rfl⟩⟩;(focus (repeat' (first|assumption|exact q7d _ _ _ _|exact zaz _ _ _ _ _ _ _|apply qvc|apply q11|(refine qba (T:=_) (ver:=_) (cs:=_) ?_)|exact yc|exact j9 rfl|apply kh|apply j8|omega|apply qc7)));(exact qie);(first|exact rfl|exact qdw λ_=>rfl);((simp[maxLen];omega));((simp;omega));intro c' S' t1 g1 g2 g3 g4))
 .exact qo rfl (x8 (q7 rfl) (λG v h=>by
   rw[jl,h0]
   exact qcx h)) ⟨rfl,_,(Qj st).symm⟩
 .exact qo rfl (x8 (q7 rfl) (qpi g1)) ⟨rfl,qyw λj hj=>(g2.same j Om (Nat.lt_of_lt_of_le hj qie)).trans (Qs hj)⟩
theorem zbv(es:List EntV)(st:List AObj)(hl:es.length<1000000):qr E 169 [.sl 4 (es.map entA) none] st λr st'=>OwnR 4 100 (es.map entA) st (.v undef) r st':=by
 refine qs Tryz.func169 rfl (Qw rfl) ?_;have o0:(es.map entA).length=es.length:=Sx
 rw[Qj];by_cases he:es=[]
 .subst he
  repeat' (first|(apply qdx (st:=st);(iterate 6 exact rfl))|(apply qmx;exact rfl;exact rfl;intro h0)|(apply qqb (c:=.os st.length 0 0 0 0);exact rfl;exact(qra _ _ _).len0;exactλ_ _ h=>h;exact rfl;exact rfl;exact⟨⟨_,_,rfl,rfl,rfl,rfl,rfl⟩⟩)|apply qq|apply qh|apply qj|apply ql|apply qi|(apply qe;exact rfl;apply cd_t;exact cRa)|(apply qe;exact rfl;apply cd_f;exact cRa)|apply qz|apply qw)
  .exact qo rfl (q7 rfl) ⟨.inl ⟨rfl,quv none⟩,Qe _,λ_ _ _=>rfl,λo ho=>by
   have ho:(none:Option Nat)=some o:=ho
   simp at ho⟩
  .exact qo rfl (q7 rfl) ⟨.inl ⟨rfl,qra _ _ _⟩,qie,λj hj _=>Qs hj,λo ho=>by
   have ho:(none:Option Nat)=some o:=ho
   simp at ho⟩
 .have b9:es.map entA≠[]:=by simpa using he
  repeat' (first|(apply qdx (st:=st);(iterate 6 exact rfl))|(apply qmx;exact rfl;exact rfl;intro h0)|(refine qga (ys:=es.map entA) (bytes:=56) (qra _ _ _).val (λ_ _ h=>h) rfl rfl ⟨⟨_,_,rfl,rfl,rfl,rfl,rfl⟩⟩ (qdw λ_=>rfl) b9 (by simp[maxLen];omega) So λcap pad q1 q2 q3 q4=>?_)|apply qq|apply qh|apply qj|apply ql|apply qi|(apply qe;exact rfl;apply cd_t;exact cRa)|(apply qe;exact rfl;apply cd_f;exact cRa)|apply qz|apply qw)
  .exact absurd h0 b9
  .refine qo rfl (q7 rfl) ⟨.inr ⟨_,0,cap,pad,rfl,yc,q1,q2,q3,q4⟩,Zx qie qie,λj hj _=>?_,λo ho=>?_⟩
   .show((st++[_])++[_])[j]?=_
    rw[Qs So,Qs hj]
   .have e7:some (st++[AObj.cells 0 100 []]).length=some o:=ho
    simp only[Zq]at e7;left;rw[<-e7];simp
end Go.Proofs.YtihlchbgjdkmpaaGreatDoor
namespace Go.Pl
open Go Go.Proofs
def xc(id:Int):Nat->List EntV->Int
 |_,[]=> -1
 |k,e::r=>if e.id=id then(k:Int)else xc id (k+1) r
def atF(l:qu)(id:Int):Int:=if id<1 then -1 else xc id 0 l.ents
theorem qwx(id:Int):∀(es:List EntV)(k:Nat),xc id k es= -1∨∃i e,xc id k es=((k+i:Nat):Int)∧es[i]?=some e∧e.id=id
 | [],k=>.inl rfl
 |e::r,k=>by
  unfold xc;by_cases h:e.id=id
  .rw[if_pos h]
   exact .inr ⟨0,e,Sx,rfl,h⟩
  .rw[if_neg h]
   rcases qwx id r (k+1)with g|⟨i,e',g1,g2,g3⟩
   .exact .inl g
   .exact .inr ⟨i+1,e',by rw[g1];congr 1;omega,by simpa using g2,g3⟩
theorem qfu(l:qu)(id:Int):atF l id= -1∨∃(i:Nat)(e:EntV),atF l id=(i:Int)∧l.ents[i]?=some e∧e.id=id∧1<=id:=by
 unfold atF;by_cases h:id<1
 .exact .inl (if_pos h)
 .rw[if_neg h]
  rcases qwx id l.ents 0 with g|⟨i,e,g1,g2,g3⟩
  .exact .inl g
  .exact .inr ⟨i,e,by rw[g1];congr 1;omega,g2,g3,Om⟩
end Go.Pl
namespace Go.Proofs.YtihlchbgjdkmpaaGreatDoor
open Go Go.Av Go.RowKit Go.Proofs Go.Pl
theorem zo2(e:EntV)(id:Int)(st:List AObj):qr E 229 [entA e,.pp [Iv id]] st λr st'=>r=Bv (decide (e.id=id))∧st'=st:=by
 refine zj [.a (entA e),.a (.pp [Iv id])] (qt _) Tryz.func229 rfl rfl (λ_=>rfl) rfl λS0=>?_;apply qf [];repeat' (first|apply Qa|(intro h;try exact cDd)|exact cSd|apply qd []|refine exr ?_|refine qg ?_)
@[reducible] def atFn (id : Int) : SV := .fn (.func 229) [] [.a (.pp [Iv id])]
theorem zmc(l:qu)(st:List AObj):qr E 71 [v4 l] st λr st'=>r=Iv l.next∧st'=st:=by
 refine zj [.a (v4 l)] (qt _) Tryz.func71 rfl rfl (λ_=>rfl) rfl λS0=>?_;apply qf [];repeat' (first|apply Qa|(intro h;try exact cDd)|exact cSd|apply qd []|refine exr ?_|refine qg ?_)
@[reducible] def lstH (a : Nat) (l : qu) : List (Nat × Option SR) := [(0, some (.cells 144 [.tp a, .i l.next, .i l.many])), (a, some (.own 4 100 (l.ents.map entA)))]
theorem ziv(es:List EntV)(id:Int)(hl:es.length<1000000):va E 228 [.tp 0,atFn id] 1 (hpF [(0,some (.own 4 100 (es.map entA)))]) ⟨.i (xc id 0 es),kr [(0,some (.own 4 100 (es.map entA)))],[(0,some (.own 4 100 (es.map entA)))]++vv [(0,some (.own 4 100 (es.map entA)))],1⟩:=by
 refine xl [.tp 0,atFn id] [(0,some (.own 4 100 (es.map entA)))] 1 (.i (xc id 0 es)) [(0,some (.own 4 100 (es.map entA)))] 1 Tryz.func228 rfl rfl rfl rfl λS F ρ=>?_;have o0:(es.map entA).length=es.length:=Sx
 apply qf [];repeat' (first|apply Qa|(intro h;try exact cDd)|exact cSd|apply qd []|refine exr ?_|refine qg ?_)
 refine zx (X:=Nat) (λk=>⟨[(0,.tp 0),(1,atFn id),(7,.i es.length),(8,.i k)],[(0,some (.own 4 100 (es.map entA)))],1⟩) (λk=>k<=es.length∧xc id k (es.drop k)=xc id 0 es) (λk=>es.length-k) 0 ⟨Om,Sx⟩ ?_ ?_
 .skip
  repeat' (first|apply Qa|(intro h;try exact cDd)|exact cSd|apply qd []|refine exr ?_|refine qg ?_)
  all_goals (simp;done)
 .rintro k ⟨hk,a8⟩
  by_cases e9:k<es.length
  .have hx:es[k]?=some es[k]:=Qc e9
   have i3:(es.map entA)[k]?=some (entA es[k]):=by rw[Zr,hx];rfl
   rw[Qf e9,xc]at a8;generalize es[k]=e at hx i3 a8;have h1:=λst=>zo2 e id st;by_cases cr:e.id=id
   .rw[if_pos cr]at a8
    rw[decide_eq_true cr]at h1;rw[<-a8];apply qf [];repeat' (first|apply Qa|(intro h;try exact cDd)|(refine qgh (i:=k) rfl rfl rfl rfl rfl rfl Om ?_)|(refine qif (i:=k) (j:=0) rfl rfl rfl rfl i3 rfl rfl ?_)|exact⟨Tryz.call229⟩|refine cpe h1 ?_|exact cSd|apply qd []|refine exr ?_|refine qg ?_)
   .rw[if_neg cr]at a8
    rw[decide_eq_false cr]at h1;apply qf [];repeat' (first|apply Qa|(intro h;try exact cDd)|(refine qgh (i:=k) rfl rfl rfl rfl rfl rfl Om ?_)|(refine qif (i:=k) (j:=0) rfl rfl rfl rfl i3 rfl rfl ?_)|exact⟨Tryz.call229⟩|refine cpe h1 ?_|(refine Qb (k+1) ⟨⟨Om,a8⟩,Om,?_⟩)|exact cSd|apply qd []|refine exr ?_|refine qg ?_)
  .have e9:k=es.length:=by omega
   subst e9;rw[Zu,xc]at a8;rw[<-a8];apply qf [];repeat' (first|apply Qa|(intro h;try exact cDd)|exact cSd|apply qd []|refine exr ?_|refine qg ?_)
theorem qsa(l:qu)(id:Int)(hl:l.ents.length<1000000):va E 174 [.bx 0 0,.i id] 2 (hpF (lstH 1 l)) ⟨.i (atF l id),kr (lstH 1 l),lstH 1 l++vv (lstH 1 l),2⟩:=by
 refine xl [.bx 0 0,.i id] (lstH 1 l) 2 (.i (atF l id)) (lstH 1 l) 2 Tryz.func174 rfl rfl rfl rfl λS F ρ=>?_;unfold atF;have h1:=ziv l.ents id hl;by_cases h:id<1
 .rw[if_pos h]
  apply qf [];repeat' (first|apply Qa|(intro h;try exact cDd)|exact cSd|apply qd []|refine exr ?_|refine qg ?_)
 .rw[if_neg h]
  apply qf [];repeat' (first|apply Qa|(intro h;try exact cDd)|exact⟨Tryz.call228⟩|(refine jm h1 ?_)|exact cSd|apply qd []|refine exr ?_|refine qg ?_)
end Go.Proofs.YtihlchbgjdkmpaaGreatDoor
