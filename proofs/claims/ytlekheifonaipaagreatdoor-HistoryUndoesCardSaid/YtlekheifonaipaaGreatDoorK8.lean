/- Contracts and plain facts that the closing text leans on (part 8). No condition of their own beyond those that each states. -/
import Derived.Test.YtlekheifonaipaaGreatDoorK7
import Derived.Lib.SliceRun
set_option maxRecDepth 100000
set_option linter.unusedVariables false
set_option linter.unusedSimpArgs false
open And renaming intro→Qa
open Exists renaming intro→Qb
open Int renaming natCast_add→Qk,toNat_natCast→Qn
open List renaming drop_drop→Qc,getElem?_eq_getElem→Qe,length_pos_iff→Qf,drop_eq_getElem_cons→Qg,mem_cons→Qh,drop_left→Qi,append_nil→Qj,append_assoc→Ql,mem_of_getElem?→Qm,length_eq_zero_iff→Qo,length→Qp,take_append_drop→Qq,mem_append→Qr,getElem?_append_left→Qs,not_mem_nil→Qt,length_append→Qu,drop_eq_nil_of_le→Qv,exists_cons_of_ne_nil→Qx,getElem?_eq_some_iff→Qy,prefix_refl→Za,mem_singleton→Zb,getLast?_eq_getElem?→Zd,mem_map→Ze,length_nil→Zf,map_append→Zg,nil_append→Zh,length_map→Zi,take_of_length_le→Zj,take_left→Zk,mem_of_mem_drop→Zl,prefix_append→Zm,mem_cons_self→Zn,map_set→Zo,getLast?_cons→Zp,length_cons→Zr,cons_append→Zs,length_set→Zt,drop_zero→Zu,getD→Zw
open List.cons renaming inj→Qz
open Nat renaming le_refl→Qd,le_of_ble_eq_true→Qw,le_trans→Zv
open Option.some renaming injEq→Zq,inj→Zx
open Prod.mk renaming injEq→Zc,inj→Zy
namespace Go.Proofs.YtlekheifonaipaaGreatDoor
open Go Go.Av Go.RowKit Go.Proofs Go.Pl
def qdm:Option (List qm)->AV
 |none=>.tu [zh [],Bv false]
 |some b=>.tu [zh b,Bv true]
end Go.Proofs.YtlekheifonaipaaGreatDoor
namespace Go.Pl
open Go Go.Proofs
def vk:List (qa×Bool)->List qa
 | []=>[]
 |(t,_)::r=>if qx t=3 then t::vk r else []
def ko(prev:Bool)(t:qa)(e:Bool)(r:List (qa×Bool))(fields:Nat)(records:Int):Int:=
 if qx t=5∨(qx t=3∧prev=false)∨e=false then 2
 else if qx t≠4 then 0
 else if(zu (t::vk r)).2≠0 then(zu (t::vk r)).2
 else if 40<=fields∨(fields=0∧400<=records)then 11 else 0
theorem qtm{α:Type}{l:List α}{x:α}(h:l.getLast?=some x):l.dropLast++[x]=l:=by
 have b9:l≠[]:=λe=>by subst e;simp at h
 rw[List.getLast?_eq_some_getLast b9]at h;obtain rfl:=Zx h;exact List.dropLast_concat_getLast b9
def outR(now:zg)(out:List zg):List zg:=if now.raw=[]then out else out++[now]
def refL:Nat->List (qa×Bool)->Bool->zg->Int->List zg->Option (Int×Int)×List zg
 |_,[],_,now,_,out=>(none,outR now out)
 |i,(t,e)::r,prev,now,rec,out=>
  if ko prev t e r now.fields.length rec≠0 then(some ((i:Int),ko prev t e r now.fields.length rec),[])
  else if qx t=1 then refL (i+1) r false ⟨2,[],[]⟩ rec (outR now out++[⟨1,t++[10],[]⟩])
  else if qx t=4 then refL (i+1) r true ⟨3,now.raw++t++[10],now.fields++[(zu (t::vk r)).1]⟩ (if now.kind=2 then rec+1 else rec) out
  else refL (i+1) r (decide (qx t=3)) ⟨now.kind,now.raw++t++[10],now.fields⟩ rec out
def q3l:List (qa×Bool)->Prop
 | []=>True
 |(_,e)::r=>(e=false->r=[])∧q3l r
theorem qty:∀(n:Nat)(l:qa),l.length<=n->q3l (zo l)
 |0,l,h=>by
  have:l=[]:=Qo.1 Om;subst this;rw[vv]
  trivial
 |n+1,l,h=>by
  by_cases hl:l=[]
  .subst hl
   rw[vv];trivial
  .rw[wl hl]
   refine⟨λhe=>?_,qty n _ (by have:=xq (c:=10) hl;omega)⟩;have i3:10∉l:=by simpa using he
   have:past 10 l=[]:=by
    unfold past;rw[xy i3];exact Qv Om
   rw[this,vv]
def qf0(ls:List qa)(full:Bool):Int:=if(zu ls).2≠0 then(zu ls).2 else if full=true then 11 else 0
theorem qkl{p:PSt}(h:p.lines≠[])(hc:qf0 p.lines p.full≠0):(ka p).1=some (p.frm,qf0 p.lines p.full):=by
 unfold qf0 at *;unfold ka;rw[if_neg h];by_cases h1:(zu p.lines).2≠0
 .rw[if_pos h1,if_pos h1]
 .rw[if_neg h1]at hc⊢
  rw[if_neg h1];by_cases h2:p.full=true
  .rw[if_pos h2,if_pos h2]
  .rw[if_neg h2]at hc
   exact absurd rfl hc
theorem q1j{p:PSt}(h:p.lines=[]∨qf0 p.lines p.full=0):ka p=(none,{p with lines:=[],fields:=p.fields++(if p.lines=[]then []else [(zu p.lines).1])}):=by
 unfold ka;by_cases h0:p.lines=[]
 .rw[if_pos h0,if_pos h0]
  obtain⟨a,b,c,d,e,f,g⟩:=p;simp only at h0;subst h0;simp
 .rw[if_neg h0,if_neg h0]
  have h:=h.resolve_left h0;unfold qf0 at h;by_cases h1:(zu p.lines).2≠0
  .rw[if_pos h1]at h
   exact absurd h h1
  .rw[if_neg h1]at h⊢
   by_cases h2:p.full=true
   .rw[if_pos h2]at h
    simp at h
   .rw[if_neg h2]
theorem qvs{p:PSt}{no:Int}{t:qa}{e:Bool}{x:Int×Int}(h:(j6 p no t e (qx t)).1=some x):(xh p no t e).1=some x:=by
 unfold xh;rw[h]
theorem qvt{p q:PSt}{no:Int}{t:qa}{e:Bool}(h:j6 p no t e (qx t)=(none,q))(hc:qx t=5∨e=false):(xh p no t e).1=some (no,2):=by
 unfold xh;rw[h];simp only;rw[if_pos hc]
theorem qn9{p q:PSt}{no:Int}{t:qa}(h:j6 p no t true (qx t)=(none,q))(hc:qx t≠5):xh p no t true=
  if qx t=1 then(none,{q with items:=q.items++[⟨1,t++[10],[]⟩]})else if qx t=4 then(none,{vh q no t with block:=q.block++[t]})else(none,{q with block:=q.block++[t]}):=by
 unfold xh;rw[h];simp only;rw[if_neg (by simp[hc])]
theorem qha{k:Nat}{t:qa}{e:Bool}{r:List (qa×Bool)}{p:PSt}{x:Int×Int}(h:(xh p k t e).1=some x):(runL k ((t,e)::r) p).1=some x:=by
 rw[runL,h]
theorem qjy{k:Nat}{t:qa}{e:Bool}{r:List (qa×Bool)}{p q:PSt}(h:xh p k t e=(none,q)):runL k ((t,e)::r) p=runL (k+1) r q:=by
 rw[runL,h]
theorem qwc{p:PSt}{no:Int}{t:qa}(hk:qx t=3)(hl:p.lines≠[]):j6 p no t true (qx t)=(none,{p with lines:=p.lines++[t]}):=by
 unfold j6;rw[if_pos hk,if_neg hl,if_pos rfl]
theorem qwb{p:PSt}{no:Int}{t:qa}(hk:qx t=3)(hl:p.lines≠[]):j6 p no t false (qx t)=ka {p with lines:=p.lines++[t]}:=by
 unfold j6;rw[if_pos hk,if_neg hl,if_neg Sx]
theorem qiu{p:PSt}{no:Int}{t:qa}{e:Bool}(hk:qx t≠3)(h1:qx t≠1):j6 p no t e (qx t)=ka p:=by
 unfold j6;rw[if_neg hk,if_neg h1]
theorem qmx{p:PSt}{no:Int}{t:qa}{e:Bool}(h1:qx t=1):j6 p no t e (qx t)=endP p:=by
 unfold j6;rw[if_neg Om,if_pos h1]
theorem qpc{t:qa}{e:Bool}{r:List (qa×Bool)}(h:qx t≠3):vk ((t,e)::r)=[]:=by
 rw[vk,if_neg h]
theorem qja{t:qa}{e:Bool}{r:List (qa×Bool)}(h:qx t=3):vk ((t,e)::r)=t::vk r:=by
 rw[vk,if_pos h]
theorem q5e{p:PSt}{x:Int×Int}(h:(ka p).1=some x):(endP p).1=some x:=by
 unfold endP;rw[h]
theorem qzk{p q:PSt}(h:ka p=(none,q)):endP p=(none,y4 q):=by
 unfold endP;rw[h]
theorem q65:∀(r:List (qa×Bool))(p:PSt)(k:Nat)(c:Int),q3l r->p.lines≠[]->qf0 (p.lines++vk r) p.full=c->c≠0->(runL k r p).1=some (p.frm,c)
 | [],p,k,c,_,hl,hc,h0=>by
  rw[vk,Qj]at hc;rw[runL];subst hc
  exact q5e (qkl hl h0)
 |(t,e)::r,p,k,c,hE,hl,hc,h0=>by
  by_cases h3:qx t=3
  .rw[qja h3]at hc
   cases e with
   |true=>
    have ht:=qn9 (qwc (no:=k) h3 hl) Om;rw[if_neg Om,if_neg Om]at ht;rw[qjy ht]
    exact q65 r _ (k+1) c hE.2 Sx (by simpa using hc) h0
   |false=>
    have hr:=hE.1 rfl;subst hr;refine qha (qvs ?_);rw[qwb h3 hl];have sm:qf0 (p.lines++[t]) p.full=c:=hc;have:=qkl (p:={p with lines:=p.lines++[t]}) Sx (by simp only;rw[sm];exact h0);simp only at this;rw[this,sm]
  .rw[qpc h3,Qj]at hc
   subst hc;refine qha (qvs ?_);by_cases h1:qx t=1
   .rw[qmx h1]
    exact q5e (qkl hl h0)
   .rw[qiu h3 h1]
    exact qkl hl h0
structure Sim (r:List (qa×Bool)) (p:PSt) (prev:Bool) (now:zg) (rec:Int) (out:List zg):Prop where
 hprev:prev=decide (p.lines≠[])
 hok:p.lines=[]∨qf0 (p.lines++vk r) p.full=0
 hraw:now.raw=zj p.block
 hfields:now.fields=p.fields++(if p.lines=[]then []else [(zu (p.lines++vk r)).1])
 hkind:now.kind=if now.fields=[]then 2 else 3
 hrec:rec=p.records+if now.fields=[]then 0 else 1
 hout:out=p.items
 hempty:p.block=[]->p.lines=[]∧p.fields=[]
 b1:now.fields.length<=40
 b2:rec<=400
theorem zhy(b:List qa):zj b=[]↔b=[]:=by
 cases b with
 |nil=>simp[zj]
 |cons x r=>simp[zj]
theorem qp3(b:List qa)(t:qa):zj (b++[t])=zj b++t++[10]:=by simp[zj]
theorem Sim.flush{r:List (qa×Bool)}{p:PSt}{prev:Bool}{now:zg}{rec:Int}{out:List zg}(h:Sim r p prev now rec out)(hm:vk r=[]):ka p=(none,{p with lines:=[],fields:=now.fields}):=by
 have h1:=h.hok;have h2:=h.hfields;rw[hm,Qj]at h1 h2;rw[q1j h1,h2]
theorem Sim.close{r:List (qa×Bool)}{p:PSt}{prev:Bool}{now:zg}{rec:Int}{out:List zg}(h:Sim r p prev now rec out)(hm:vk r=[]):y4 {p with lines:=[],fields:=now.fields}={p with lines:=[],fields:=[],block:=[],items:=outR now out,records:=rec}:=by
 have hk:=h.hkind;have hr:=h.hrec;have hw:=h.hraw;have ho:=h.hout;unfold y4 outR;simp only;by_cases hb:p.block=[]
 .obtain⟨e1,e2⟩:=h.hempty hb
  have hf:now.fields=[]:=by rw[h.hfields,e1,e2];simp
  rw[if_pos hb,if_pos (by rw[hw,hb];rfl),ho,hr,hf];simp
 .have b9:¬now.raw=[]:=by rw[hw,zhy];exact hb
  rw[if_neg hb,if_neg b9,ho,hr,<-hw];obtain⟨nk,nr,nf⟩:=now;simp only at hk b9⊢;by_cases hf:nf=[]
  .rw[if_pos hf]at hk
   simp[hf,hk,b9]
  .rw[if_neg hf]at hk
   simp[hf,hk,b9]
theorem qn4:∀(r:List (qa×Bool))(k:Nat)(p:PSt)(prev:Bool)(now:zg)(rec:Int)(out:List zg),q3l r->Sim r p prev now rec out->
  refL k r prev now rec out=match(runL k r p).1 with
   |some e=>(some e,[])
   |none=>(none,(runL k r p).2.items)
 | [],k,p,prev,now,rec,out,_,h=>by
  rw[runL,qzk (h.flush rfl),h.close rfl,refL]
 |(t,e)::r,k,p,prev,now,rec,out,hE,h=>by
  rw[refL];by_cases h3:qx t=3
  .by_cases hl:p.lines=[]
   .have hp:prev=false:=by rw[h.hprev];simp[hl]
    have hw:ko prev t e r now.fields.length rec=2:=by
     unfold ko;rw[if_pos (.inr (.inl ⟨h3,hp⟩))]
    rw[hw,if_pos (by decide),qha (x:=((k:Int),2)) (qvs (by unfold j6;rw[if_pos h3,if_pos hl]))]
   .cases e with
    |true=>
     have hp:prev=true:=by rw[h.hprev];simp[hl]
     have hw:ko prev t true r now.fields.length rec=0:=by
      unfold ko;rw[if_neg (by simp[hp];omega),if_pos Om]
     have ht:=qn9 (qwc (no:=k) h3 hl) Om;rw[if_neg Om,if_neg Om]at ht;rw[hw,if_neg Sx,if_neg Om,if_neg Om,qjy ht];have hm:=qja (e:=true) (r:=r) h3;have hok:=h.hok.resolve_left hl;have hfs:=h.hfields;rw[if_neg hl,hm]at hfs;rw[hm]at hok
     refine qn4 r (k+1) _ _ _ _ _ hE.2 ⟨by simp[h3],.inr (by simpa using hok),by rw[qp3,<-h.hraw],by simp[hfs],h.hkind,h.hrec,h.hout,Sx,h.b1,h.b2⟩
    |false=>
     have hr:=hE.1 rfl;subst hr
     have hw:ko prev t false [] now.fields.length rec=2:=by
      unfold ko;rw[if_pos (.inr (.inr rfl))]
     have hok:=h.hok.resolve_left hl;rw[qja h3]at hok;have hf:=q1j (p:={p with lines:=p.lines++[t]}) (.inr hok);rw[hw,if_pos (by decide),qha (x:=((k:Int),2)) (qvt ((qwb h3 hl).trans hf) (.inr rfl))]
  .have hm:=qpc (e:=e) (r:=r) h3
   have hf:=h.flush hm;have hc:=h.close hm;by_cases dt:qx t=5∨e=false
   .have hw:ko prev t e r now.fields.length rec=2:=by
     unfold ko;rw[if_pos (by rcases dt with h|h;exact .inl h;exact .inr (.inr h))]
    rw[hw,if_pos (by decide)];by_cases h1:qx t=1
    .rw[qha (x:=((k:Int),2)) (qvt ((qmx h1).trans (qzk hf)) dt)]
    .rw[qha (x:=((k:Int),2)) (qvt ((qiu h3 h1).trans hf) dt)]
   .have he:e=true:=by
     cases e with
     |true=>rfl
     |false=>exact absurd (.inr rfl) dt
    have h5:qx t≠5:=λh=>dt (.inl h);subst he;by_cases h1:qx t=1
    .have hw:ko prev t true r now.fields.length rec=0:=by
      unfold ko;rw[if_neg (by simp[h3,h5]),if_pos Om]
     have ht:=qn9 ((qmx (no:=k) h1).trans (qzk hf)) h5;rw[if_pos h1,hc]at ht;rw[hw,if_neg Sx,if_pos h1,qjy ht];exact qn4 r (k+1) _ _ _ _ _ hE.2 ⟨Sx,.inl rfl,rfl,Sx,Sx,Sx,rfl,Sx,Sx,h.b2⟩
    .by_cases h4:qx t=4
     .have ht:=qn9 ((qiu (no:=k) h3 h1).trans hf) h5
      rw[if_neg h1,if_pos h4]at ht;rw[qjy ht];have p9:=h.b1;have t8:=h.b2;have hrec:=h.hrec
      have hfull:(40<=now.fields.length∨(now.fields.length=0∧400<=rec))↔(now.fields.length=40∨(now.fields.length=0∧p.records=400)):=by
       by_cases hz:now.fields=[]
       .rw[if_pos hz]at hrec
        simp only[hz,Zf];constructor
        .rintro(h'|h')
         .exact absurd h' (by decide)
         .exact .inr ⟨trivial,Om⟩
        .rintro(h'|h')
         .exact absurd h' (by decide)
         .exact .inr ⟨trivial,Om⟩
       .have:now.fields.length≠0:=λh=>hz (Qo.1 h)
        constructor
        .rintro(h'|h')
         .exact .inl Om
         .exact absurd h'.1 this
        .rintro(h'|h')
         .exact .inl Om
         .exact absurd h'.1 this
      have hw:ko prev t true r now.fields.length rec=qf0 (t::vk r) (decide (now.fields.length=40∨(now.fields.length=0∧p.records=400))):=by
       unfold ko qf0;rw[if_neg (by simp[h3,h5]),if_neg Om];by_cases hu:(zu (t::vk r)).2≠0
       .rw[if_pos hu,if_pos hu]
       .rw[if_neg hu,if_neg hu]
        by_cases hx:40<=now.fields.length∨(now.fields.length=0∧400<=rec)
        .rw[if_pos hx,if_pos (decide_eq_true (hfull.1 hx))]
        .rw[if_neg hx,if_neg (by simpa usingλh=>hx (hfull.2 h))]
      by_cases hw0:ko prev t true r now.fields.length rec=0
      .rw[if_neg (by simp[hw0]),if_neg h1,if_pos h4]
       have hx:¬(40<=now.fields.length∨(now.fields.length=0∧400<=rec)):=λhx=>by
        unfold ko at hw0;rw[if_neg (by simp[h3,h5]),if_neg Om]at hw0;by_cases hu:(zu (t::vk r)).2≠0
        .rw[if_pos hu]at hw0;exact hu hw0
        .rw[if_neg hu,if_pos hx]at hw0;simp at hw0
       rw[hw]at hw0;refine qn4 r (k+1) _ _ _ _ _ hE.2 ⟨by simp[vh],.inr hw0,by simp only[vh];rw[qp3,<-h.hraw],by simp[vh],Sx,?_,h.hout,by simp[vh],So,?_⟩
       .have rj:=h.hkind
        simp only[vh];by_cases hz:now.fields=[]
        .rw[if_pos hz]at hrec rj
         rw[rj];simp;omega
        .rw[if_neg hz]at hrec rj
         rw[rj];simp;omega
       .rw[h.hkind]
        by_cases hz:now.fields=[]
        .have:now.fields.length=0:=by rw[hz];rfl
         rw[if_pos hz,if_pos rfl];omega
        .rw[if_neg hz,if_neg (by decide)]
         exact t8
      .rw[if_pos hw0]
       have:=q65 r {vh {p with lines:=[],fields:=now.fields} k t with block:=p.block++[t]} (k+1) (ko prev t true r now.fields.length rec) hE.2 (by simp[vh]) hw.symm hw0;simp only[vh]at this⊢;rw[this]
     .have hw:ko prev t true r now.fields.length rec=0:=by
       unfold ko;rw[if_neg (by simp[h3,h5]),if_pos h4]
      have ht:=qn9 ((qiu (no:=k) h3 h1).trans hf) h5;rw[if_neg h1,if_neg h4]at ht;rw[hw,if_neg Sx,if_neg h1,if_neg h4,qjy ht];exact qn4 r (k+1) _ _ _ _ _ hE.2 ⟨by simp[h3],.inl rfl,by rw[qp3,<-h.hraw],Sx,h.hkind,h.hrec,h.hout,Sx,h.b1,h.b2⟩
theorem qej(text:qa):refL 0 (zo text) false ⟨2,[],[]⟩ 0 []=jl text:=by
 unfold jl;exact qn4 (zo text) 0 p0 false ⟨2,[],[]⟩ 0 [] (qty _ text (Qd _)) ⟨by simp[p0],.inl rfl,rfl,by simp[p0],Sx,by simp[p0],rfl,by simp[p0],Sx,Om⟩
end Go.Pl
namespace Go.Pl
open Go Go.Proofs Go.Proofs.YtlekheifonaipaaGreatDoor
theorem qya{l b:qa}{n:Int}(h:zi l=(1,b,n)):yw b∧∃m,l=recF b++m∧n=(recF b).length:=by
 unfold zi at h;split at h
 .rename_i i3
  split at h
  .rename_i ho
   generalize hr:past 10 l=r at *;have hl:=wo i3;rw[hr]at hl;generalize hu:upto 10 l=u at *
   have hop:u=wt (jj u).1 (jj u).2.1∧2<=(jj u).1∧(jj u).1<=50000:=by
    simp only[jj,decide_eq_true_eq]at ho⊢;obtain⟨o1,o2,o3,o4,o5⟩:=ho;refine⟨?_,o3,qa7 _⟩;obtain⟨t,rfl⟩:=o1;rw[qky]at *;have:=qc9 rfl (Zv (by decide) o3);unfold wt;rw[<-this,<-wo o2]
   generalize(jj u).1=n at *;generalize(jj u).2.1=fig at *;obtain⟨rfl,h2,hn⟩:=hop;split at h
   .unfold yq at h
    split at h<;>simp at h
   .rename_i ft
    split at h
    .rename_i hg
     have d5:(r.take n).length=n:=So
     unfold xo at h;rw[d5]at h;split at h
     .simp at h
     .split at h
      .rename_i hc
       obtain⟨⟨m,hm⟩,hs⟩:=hc;simp only[Zc,true_and]at h;obtain⟨rfl,rfl⟩:=h;refine⟨hg,m,?_,?_⟩
       .rw[qn1,d5,<-hs,hl]
        unfold recL
        conv=>lhs;rw[<-Qq n r,<-hm]
        simp
       .rw[qne _ hg,d5]
      .simp at h
    .simp at h
  .simp at h
 .split at h<;>simp at h
theorem qzs(s sub:qa)(i:Nat):Lib.occAt s sub i=true↔sub<+:s.drop i:=by
 unfold Lib.occAt;rw[List.isPrefixOf_iff_prefix]
theorem zoj{a:qa}(r:qa)(h:10∉a):Lib.cut (a++10::10::r) [10,10]=(a,r,true):=by
 have hi:Lib.index (a++10::10::r) [10,10]=(a.length:Int):=by
  refine Lib.index_first Sx ?_ λj hj=>?_
  .rw[qzs,Qi]
   exact⟨r,rfl⟩
  .cases hb:Lib.occAt (a++10::10::r) [10,10] j with
   |false=>rfl
   |true=>
    obtain⟨t,ht⟩:=(qzs _ _ _).1 hb;rw[List.drop_append_of_le_length Om]at ht
    have:a.drop j≠[]:=by
     intro e;have:=congrArg Qp e;simp at this;omega
    obtain⟨c,q,hq⟩:=Qx this;rw[hq]at ht;have i3:c=10:=by simpa using(Qz ht).1.symm
    exact absurd (Zl (by rw[hq,i3];simp:(10:UInt8)∈a.drop j)) h
 unfold Lib.cut;rw[hi,if_pos Om];simp only[Qn,List.take_left',Zr,Zf];rw[show a.length+(0+1+1)=(a++[10,10]).length by simp,show a++10::10::r=(a++[10,10])++r by simp,Qi]
theorem zi1{l m:qa}(h:(Lib.cut l m).2.2=true):l=(Lib.cut l m).1++m++(Lib.cut l m).2.1:=by
 rcases Lib.index_spec l m with⟨h1,_⟩|⟨i,h1,h2,h3,_⟩
 .unfold Lib.cut at h
  rw[h1,if_neg Om]at h;simp at h
 .unfold Lib.cut
  rw[h1,if_pos Om];simp only[Qn];obtain⟨t,ht⟩:=(qzs _ _ _).1 h3;have e:l.drop (i+m.length)=t:=by rw[<-Qc,<-ht,Qi]
  rw[e,Ql,ht,Qq]
def genL:qa:=[35,37,103,101,110,32]
def qaa(n:Int):qa:=genL++Lib.itoa n++[10,10]
def x9(n:Int):Prop:=1<=n∧n<=2147483648
instance (n:Int):Decidable (x9 n):=inferInstanceAs (Decidable (_∧_))
def wv(text:qa):Int×qa:=
 if genL<+:text then
  match numZ (upto 10 (text.drop 6))with
  |some n=>if x9 n∧[10,10]<+:text.drop (6+(upto 10 (text.drop 6)).length)then(n,text.drop (8+(upto 10 (text.drop 6)).length))else(0,text)
  |none=>(0,text)
 else(0,text)
theorem qo4(v:Int):(10:UInt8)∉Lib.itoa v:=by
 intro h;by_cases hv:v<0
 .rw[qgl hv]at h
  rcases Qh.1 h with h|h
  .simp at h
  .have:=x3 _ _ (Qd _) _ h
   simp at this
 .rw[qgm Om]at h
  have:=x3 _ _ (Qd _) _ h;simp at this
theorem qo5(n:Int)(r:qa):qaa n++r=genL++(Lib.itoa n++10::10::r):=by simp[qaa]
theorem qp0{n:Int}(h:x9 n)(r:qa):wv (qaa n++r)=(n,r):=by
 unfold wv;have hd:(genL++(Lib.itoa n++10::10::r)).drop 6=Lib.itoa n++10::10::r:=by rw[show(6:Nat)=genL.length by rfl,Qi]
 rw[qo5,if_pos (Zm _ _),hd,v8 _ (qo4 n),qg5 (by have:=h.1;omega) (by have:=h.2;omega)];have e1:(genL++(Lib.itoa n++10::10::r)).drop (6+(Lib.itoa n).length)=10::10::r:=by rw[<-Qc,hd,Qi]
 have e2:(genL++(Lib.itoa n++10::10::r)).drop (8+(Lib.itoa n).length)=r:=by
  rw[show 8+(Lib.itoa n).length=(6+(Lib.itoa n).length)+2 by omega,<-Qc,e1];rfl
 simp only;rw[e1,e2,if_pos ⟨h,r,rfl⟩]
theorem qsb{text:qa}(h:∀n r,x9 n->text≠qaa n++r):wv text=(0,text):=by
 unfold wv;split
 .rename_i hp
  obtain⟨t,rfl⟩:=hp;have hd:(genL++t).drop 6=t:=by rw[show(6:Nat)=genL.length by rfl,Qi]
  rw[hd];split
  .rename_i n hn
   split
   .rename_i hc
    obtain⟨hg,r,hr⟩:=hc;rw[<-Qc,hd]at hr;obtain⟨he,_⟩:=qmn hn;refine absurd ?_ (h n r hg);rw[qo5,<-he];congr 1
    conv=>lhs;rw[<-Qq (upto 10 t).length t,qhf,<-hr]
    rfl
   .rfl
  .rfl
 .rfl
theorem que(text:qa):(∃n r,x9 n∧text=qaa n++r∧wv text=(n,r))∨((∀n r,x9 n->text≠qaa n++r)∧wv text=(0,text)):=by
 by_cases h:∃n r,x9 n∧text=qaa n++r
 .obtain⟨n,r,hg,rfl⟩:=h
  exact .inl ⟨n,r,hg,rfl,qp0 hg r⟩
 .have h':∀n r,x9 n->text≠qaa n++r:=λn r hg e=>h ⟨n,r,hg,e⟩
  exact .inr ⟨h',qsb h'⟩
def wa(n:Int):qa:=if x9 n then qaa n else []
theorem qjk(text:qa):text=wa (wv text).1++(wv text).2∧((wv text).1=0∨x9 (wv text).1):=by
 rcases que text with⟨n,r,hg,he,ht⟩|⟨_,ht⟩
 .rw[ht]
  simp only;unfold wa;rw[if_pos hg];exact⟨he,.inr hg⟩
 .rw[ht]
  exact⟨rfl,.inl rfl⟩
theorem q1u{n:Int}(h:x9 n):(qaa n).length<=28:=by
 have:=qmg (v:=n) (by have:=h.1;omega) (by have:=h.2;omega);simp[qaa,genL];omega
def begF(l:qa):Bool:=decide (l.head?=some 37∧qx l=5)
def jf(n:Nat)(l:qa):Nat:=if h:l=[]then n else if begF (upto 10 l)=true then n-l.length else jf n (past 10 l)
 termination_by l.length
 decreasing_by exact xq h
theorem qfb(n:Nat):jf n []=n:=by rw[jf,dif_pos rfl]
theorem qki{n:Nat}{l:qa}(h:l≠[])(hb:begF (upto 10 l)=true):jf n l=n-l.length:=by rw[jf,dif_neg h,if_pos hb]
theorem ql4{n:Nat}{l:qa}(h:l≠[])(hb:¬begF (upto 10 l)=true):jf n l=jf n (past 10 l):=by
 conv=>lhs;rw[jf]
 rw[dif_neg h,if_neg hb]
theorem qqw:∀(k n:Nat)(l:qa),l.length<=k->l.length<=n->n-l.length<=jf n l∧jf n l<=n
 |0,n,l,h,hn=>by
  have:l=[]:=Qo.1 Om;subst this;rw[qfb]
  simp
 |k+1,n,l,h,hn=>by
  by_cases hl:l=[]
  .subst hl;rw[qfb];simp
  .by_cases hb:begF (upto 10 l)=true
   .rw[qki hl hb]
    omega
   .have:=xq (c:=10) hl
    rw[ql4 hl hb];have:=qqw k n (past 10 l) Om Om;omega
theorem qws:∀(k n:Nat)(l x:qa),l.length<=k->(∀p∈zo l,begF p.1=false∧p.2=true)->jf n (l++x)=jf n x
 |0,n,l,x,h,_=>by
  have:l=[]:=Qo.1 Om;subst this
  rfl
 |k+1,n,l,x,h,hp=>by
  by_cases hl:l=[]
  .subst hl;rfl
  .rw[wl hl]at hp
   obtain⟨h1,h2⟩:=hp _ (Zn ..);have i3:10∈l:=by simpa using h2
   have e:=wo i3
   have hu:upto 10 (l++x)=upto 10 l∧past 10 (l++x)=past 10 l++x:=by
    have e2:l++x=upto 10 l++10::(past 10 l++x):=by
     conv=>lhs;rw[e]
     simp
    rw[e2,v8 _ (yy 10 l),xw _ (yy 10 l)];exact⟨rfl,rfl⟩
   rw[ql4 (by simp[hl]) (by rw[hu.1];simp[h1]),hu.2];exact qws k n _ x (by have:=xq (c:=10) hl;omega) λp pb=>hp p (by simp[pb])
theorem qkt:∀(r:List (qa×Bool))(k:Nat)(prev:Bool)(now:zg)(rec:Int)(out:List zg),(refL k r prev now rec out).1=none->∀x∈r,qx x.1≠5∧x.2=true
 | [],_,_,_,_,_,_=>by simp
 |(t,e)::r,k,prev,now,rec,out,h=>by
  rw[refL]at h;split at h
  .simp at h
  .rename_i hw
   have hx:qx t≠5∧e=true:=by
    unfold ko at hw;split at hw
    .simp at hw
    .rename_i hc
     exact⟨λh5=>hc (.inl h5),by cases e with|true=>rfl|false=>exact absurd (.inr (.inr rfl)) hc⟩
   have hr:∀x∈r,qx x.1≠5∧x.2=true:=by
    split at h
    .exact qkt r _ _ _ _ _ h
    .split at h
     .exact qkt r _ _ _ _ _ h
     .exact qkt r _ _ _ _ _ h
   intro x i4;rcases Qh.1 i4 with rfl|i4
   .exact hx
   .exact hr x i4
theorem q9i{text:qa}(h:(jl text).1=none):∀x∈zo text,begF x.1=false∧x.2=true:=λx hx=>by
 rw[<-qej]at h;obtain⟨h1,h2⟩:=qkt _ _ _ _ _ _ h x hx;exact⟨by simp[begF,h1],h2⟩
theorem ql3{n:Nat}{fig l:qa}(hf:xj fig)(h:l<+:wt n fig)(b9:l≠[]):begF l=true:=by
 have i3:10∉l:=qk3 h (qcq n hf)
 have h58:(58:UInt8)∉l:=qk3 h λh'=>by
  unfold wt at h';rcases Qr.1 h' with h'|h'
  .revert h';decide
  .rcases Qr.1 h' with h'|h'
   .exact qfi n (by decide) h'
   .rcases Qh.1 h' with h'|h'
    .simp at h'
    .exact qre hf (by decide) h'
 obtain⟨c,q,rfl⟩:=Qx b9
 have hc:c=37:=by
  obtain⟨t,ht⟩:=h;unfold wt zb at ht;exact(Qz ht).1
 subst hc
 have hk:=qtx i3 (λhb=>by
  have:=hb 37 Sx;revert this
  decide)
 simp only[begF,List.head?_cons,true_and,decide_eq_true_eq];rw[hk.2];rw[if_neg Sx,if_neg (by simp[wy]),if_neg (λh=>h58 h.1)]
theorem ze8{n:Nat}{fig body l:qa}(hf:xj fig)(h:l<+:recL n fig body)(b9:l≠[]):begF (upto 10 l)=true:=by
 rcases qg6 (show l<+:wt n fig++10::(body++qai n) from h)with h|⟨r,rfl,hr⟩
 .rw[xy (qk3 h (qcq n hf))]
  exact ql3 hf h b9
 .cases r with
  |nil=>
   rw[Qj,xy (qcq n hf)]
   exact ql3 hf (Za _) (by simp[wt,zb])
  |cons c r=>
   have:c=10:=by obtain⟨t,ht⟩:=hr;exact(Qz ht).1
   subst this;rw[v8 _ (qcq n hf)];exact ql3 hf (Za _) (by simp[wt,zb])
theorem zl7{b:qa}(x:qa)(hg:yw b):begF (upto 10 (recF b++x))=true:=by
 rw[qn1];have hx:xj (sumF b):=qtu (addP 0 b);unfold recL;rw[Ql,Zs,v8 _ (qcq _ hx)];exact ql3 hx (Za _) (by simp[wt,zb])
theorem qxv:∀(n:Nat)(l:qa)(k a:Nat),l.length<=n->∀x∈v4 k a l,x.text.length<=l.length
 |n,l,k,a,hn,x,hx=>by
  by_cases h:l=[]
  .subst h;rw[qbh]at hx;simp at hx
  .have d9:=xq (c:=10) h
   cases n with
   |zero=>omega
   |succ n=>
    rw[qbn h]at hx;rcases Qh.1 hx with rfl|hx
    .exact vl 10 l
    .have:=qxv n (past 10 l) (k+1) (a+(upto 10 l).length+1) Om x hx
     omega
theorem q33{out:List qm}{e:qm}{f:Fld}(h:out[out.length-1]?=some e):addF out f=out.set (out.length-1) ⟨e.kind,e.id,e.fields++[f]⟩:=by
 have hl:out.getLast?=some e:=by rw[Zd];exact h
 have b9:out≠[]:=λe0=>by subst e0;simp at hl
 unfold addF;rw[hl];have hd:=qtm hl;simp only;generalize hq:out.dropLast=q at hd;subst hd;simp
theorem qs6(out:List qm)(f:Fld):(addF out f).length=out.length:=by
 unfold addF
 cases h:out.getLast? with
 |none=>rfl
 |some x=>
  have b9:out≠[]:=λe0=>by subst e0;simp at h
  have:=Qf.2 b9;simp;omega
def q3t(l:qa)(r:List qa)(o:List qm)(h:List qa):Option (List qm):=
 if [32,32]<+:l then if o=[]then none else vg r o (h++[l.drop 2])
 else match begR l with
  |none=>none
  |some (k,n)=>if 40<=o.length then none else vg r (o++[⟨k,n,[]⟩]) h
def qev(d6:List qa):List qa->Bool
 | []=>decide (d6≠[])
 |l::_=>decide (d6≠[]∧¬ [32,32,32]<+:l)
def qqm(R:List qa)(out:List qm)(d6:List qa)(o:List qm)(h:List qa):Prop:=
 if qev d6 R=true then qaw out d6=some o∧h=[]else o=out∧h=d6
theorem zb5{l:qa}{r:List qa}{out o:List qm}{d6 h:List qa}(e:qqm (l::r) out d6 o h):vg (l::r) out d6=q3t l r o h∧(h=[]∨[32,32,32]<+:l):=by
 unfold qqm at e;rw[vg];by_cases hc:d6≠[]∧¬ [32,32,32]<+:l
 .rw[if_pos (by simp[qev,hc.1,hc.2])]at e
  rw[if_pos hc,e.1,e.2];exact⟨rfl,.inl rfl⟩
 .rw[if_neg (by simpa[qev]using hc)]at e
  rw[if_neg hc,e.1,e.2];refine⟨rfl,?_⟩;by_cases h0:d6=[]
  .exact .inl h0
  .exact .inr (Classical.byContradiction λh=>hc ⟨h0,h⟩)
theorem q5p{R:List qa}{out:List qm}{d6:List qa}(h:qev d6 R=true)(hu:(zu d6).2≠0):vg R out d6=none:=by
 cases R with
 |nil=>
  have h0:d6≠[]:=of_decide_eq_true h;rw[vg];unfold qaw
  rw[if_neg h0,if_neg hu]
 |cons l q=>
  obtain⟨h0,hl⟩:d6≠[]∧¬ [32,32,32]<+:l:=of_decide_eq_true h;have hf:qaw out d6=none:=by unfold qaw;rw[if_neg h0,if_neg hu]
  rw[vg,if_pos ⟨h0,hl⟩,hf];rfl
theorem q5q{out:List qm}{d6:List qa}(h0:d6≠[])(hu:(zu d6).2=0):qaw out d6=some (addF out (zu d6).1):=by
 unfold qaw;rw[if_neg h0,if_pos hu]
def qkz(l:qa):Nat->Option (Int×Int)
 |0=>none
 |j+1=>tryR l (qkz l j) ((j:Int)+1)
theorem q93(l:qa):qkz l 3=begR l:=rfl
end Go.Pl
namespace Go.Proofs.YtlekheifonaipaaGreatDoor
open Go Go.Av Go.RowKit Go.Proofs Go.Pl
theorem q7j(x:Option (List qm)):Pure (qdm x):=by
 rcases x with _|b
 .exact ju (qa4 _) (qr _)
 .exact ju (qa4 _) (qr _)
theorem q7d(l w:qa)(b:Bool)(h:decide (w<+:l)=b)(st:List AObj):qp E 144 [Sv l,Sv w] st λr st'=>r=Bv b∧st'=st:=h▸qng l w st
def qob(l:qa)(j:Nat)(a b:Int):Prop:=(a=0∧b=0∧qkz l j=none)∨(1<=a∧qkz l j=some (a,b))
set_option maxHeartbeats 8000000 in
theorem q9o(text:qa)(st:List AObj)(hl:text.length<1000000):qp E 94 [Sv text] st λr st'=>r=qdm (decF text)∧st'=st:=by
 refine ze [.s text] (q7j _) Tryz.func94 rfl rfl (λ_=>rfl) rfl λS0=>?_;rw[<-zg2];by_cases bd:50000<text.length
 .have hd:qdn text=none:=if_pos bd
  rw[hd];unfold qdm;apply qd [];repeat' (first|apply Qa|(intro h;try exact cDd)|exact cSd|apply qb []|refine exr ?_|refine qe ?_)
 have m8:qdn text=match vg ((lns text).map λx=>x.text) [] []with
  |none=>none
  |some b=>if eErr b=.no∧encF b=text then some b else none:=if_neg bd
 have r9:=λst=>qku text st Om;have hlm:((lns text).map lnA).length=(lns text).length:=Sx
 have hln:(lns text).length<=text.length:=qdt _ text 0 0 (Qd _);have pn:=qxv _ text 0 0 (Qd _);have d9:∀x∈lns text,x.text.length<=text.length:=pn;have h0i:Lib.itoa 0=[48]:=by rw[qgm (by decide),Lib.decDigits_one (by decide)];rfl
 generalize lns text=L at *;clear pn;apply qd [];repeat' (first|apply Qa|(intro h;try exact cDd)|exact⟨Tryz.call90⟩|refine cpe r9 ?_|exact cSd|apply qb []|refine exr ?_|refine qe ?_)
 refine zw (X:=Nat×List qm×List qa) (λ(k,out,d6)=>⟨[(0,.s text),(4,.tp 0),(5,.tp 1),(6,.a (lnsA L)),(7,.i k)],[(0,some (.own 3 44 (out.map zt))),(1,some (.tip 1 9 (d6.map λx=>Sv x)))],2⟩)
  (λ(k,out,d6)=>OutG out k∧out.length<=40∧d6.length<=k∧k<=L.length+1∧(d6≠[]->out≠[])∧(∀s∈d6,s.length<1000000)∧
   ((k<=L.length∧vg ((L.map λx=>x.text).drop k) out d6=vg (L.map λx=>x.text) [] [])∨(k=L.length+1∧vg (L.map λx=>x.text) [] []=some out)))
  (λ(k,out,d6)=>L.length+1-k) (0,[],[]) ⟨by intro x hx;simp at hx,Sx,Sx,Om,Sx,Sx,.inl ⟨Om,rfl⟩⟩ ?_ ?_
 .skip
  repeat' (first|apply Qa|(intro h;try exact cDd)|exact cSd|apply qb []|refine exr ?_|refine qe ?_)
  all_goals (simp;done)
 .rintro⟨k,out,d6⟩ ⟨hG,h40,hh,hk,b9,hhb,hR⟩
  have hmo:(out.map zt).length=out.length:=Sx
  have hmh:(d6.map λx=>Sv x).length=d6.length:=Sx
  rcases hR with⟨hk,hR⟩|⟨rfl,hR⟩
  .have bf:=λst=>qlq d6 st ⟨Om,hhb⟩
   unfold qcv at bf;by_cases e9:k=L.length
   ·-- the end: what is d6 is flushed
    rw[e9,List.drop_of_length_le Sx]at hR;by_cases h0:d6=[]
    .subst h0
     rw[vg]at hR;unfold qaw at hR;rw[if_pos rfl]at hR;apply qd [];repeat' (first|apply Qa|(intro h;try exact cDd)|(refine Qb (k+1,out,[]) ⟨⟨hG.mono Om,h40,Sx,Om,Sx,Sx,.inr ⟨Om,hR.symm⟩⟩,by simp only;omega,?_⟩)|exact cSd|apply qb []|refine exr ?_|refine qe ?_)
     all_goals (simp;done)
    .have hz:0<d6.length:=Qf.2 h0
     have hop:0<out.length:=Qf.2 (b9 h0);by_cases hu:(zu d6).2=0
     .have hgf:=qjl hu
      rw[vg,q5q h0 hu]at hR;rw[hu]at bf;generalize(zu d6).1=f at hgf bf hR;obtain⟨e,he⟩:∃e,out[out.length-1]?=some e:=⟨_,Qe Om⟩;have heA:(out.map zt)[out.length-1]?=some (zt e):=by simp[he]
      have hef:=(hG e (Qm he)).2.1;have hmf:(e.fields.map fldA).length=e.fields.length:=Sx
      have bc:=q33 (f:=f) he;have hal:=qs6 out f;obtain⟨fk,fv⟩:=f;apply qd [];repeat' (first|apply Qa|(intro h;try exact cDd)|exact⟨Tryz.call136⟩|refine cpe bf ?_|(refine qgn (i:=out.length-1) rfl rfl rfl (congrArg (λx=>some (IntKind.i64,x)) Om) rfl rfl Om ?_)|(refine qik (i:=out.length-1) (j:=2) rfl rfl rfl rfl heA rfl rfl ?_)|(refine qpg (i:=out.length-1) (j:=2) (z:=zt e) (z':=.ag [Iv e.kind,Iv e.id,.sl 2 (e.fields.map fldA++[fldA (fk,fv)]) none]) (u:=.sl 2 (e.fields.map fldA++[fldA (fk,fv)]) none) rfl rfl rfl rfl rfl rfl heA rfl rfl ?_)|(refine Qb (k+1,addF out (fk,fv),[]) ⟨⟨q32 hG hgf,Om,Sx,Om,Sx,Sx,.inr ⟨Om,hR.symm⟩⟩,by simp only;omega,?_⟩)|exact cSd|apply qb []|refine exr ?_|refine qe ?_)
      all_goals first|(simp;done)|(rw[bc,Zo];simp[zt,jd,Zg];done)
     .have hnn:qdn text=none:=by
       rw[m8,<-hR,vg];unfold qaw;rw[if_neg h0,if_neg hu]
      rw[hnn];unfold qdm;generalize(zu d6).2=n at bf hu;generalize(zu d6).1=f at bf;obtain⟨fk,fv⟩:=f;apply qd [];repeat' (first|apply Qa|(intro h;try exact cDd)|exact⟨Tryz.call136⟩|refine cpe bf ?_|exact cSd|apply qb []|refine exr ?_|refine qe ?_)
   ·-- a line
    obtain⟨x,hx⟩:∃x,L[k]?=some x:=⟨_,Qe Om⟩;have g9:(L.map lnA)[k]?=some (lnA x):=by simp[hx]
    have hxl:=d9 x (Qm hx)
    have hdr:(L.map λx=>x.text).drop k=x.text::(L.map λx=>x.text).drop (k+1):=by
     rw[Qg So];obtain⟨_,h⟩:=Qy.1 hx;simp[h]
    rw[hdr]at hR;have gc:=λst=>qng x.text [32,32,32] st;have t8:=λst=>qng x.text [32,32] st;have gq:[32,32,32]<+:x.text->[32,32]<+:x.text:=λ⟨q,hq⟩=>⟨[32]++q,by rw[<-hq];rfl⟩
    have hmain:qdn text=none∧(d6≠[]∧¬ [32,32,32]<+:x.text∧(zu d6).2≠0)∨∃(o:List qm)(h:List qa),(q3t x.text ((L.map λx=>x.text).drop (k+1)) o h=vg (L.map λx=>x.text) [] []∧(h=[]∨[32,32,32]<+:x.text))∧OutG o (k+1)∧o.length<=40∧h.length<=k∧(h≠[]->o≠[])∧(∀s∈h,s.length<1000000)∧
      ((o=out∧h=d6∧d6=[])∨(o=out∧h=d6∧0<d6.length∧[32,32,32]<+:x.text)∨(h=[]∧0<d6.length∧¬ [32,32,32]<+:x.text∧∃(e:qm)(fk fv:qa),(out.map zt)[out.length-1]?=some (zt e)∧e.fields.length<=k∧o=out.set (out.length-1) ⟨e.kind,e.id,e.fields++[(fk,fv)]⟩∧0<out.length∧∀st,qp E 136 [Ss d6] st λr st'=>r=.tu [fldA (fk,fv),Iv 0]∧st'=st)):=by
     have step:∀(o:List qm)(h:List qa),qqm (x.text::(L.map λx=>x.text).drop (k+1)) out d6 o h->q3t x.text ((L.map λx=>x.text).drop (k+1)) o h=vg (L.map λx=>x.text) [] []∧(h=[]∨[32,32,32]<+:x.text):=λo h e=>by
      obtain⟨g1,g2⟩:=zb5 e;exact⟨by rw[<-g1,hR],g2⟩
     by_cases o8:d6≠[]∧¬ [32,32,32]<+:x.text
     .have hf:qev d6 (x.text::(L.map λx=>x.text).drop (k+1))=true:=by simp[qev,o8.1,o8.2]
      by_cases hu:(zu d6).2=0
      .have hop:0<out.length:=Qf.2 (b9 o8.1)
       have hfo:=q5q (out:=out) o8.1 hu;have hgf:=qjl hu;rw[hu]at bf;obtain⟨e,he⟩:∃e,out[out.length-1]?=some e:=⟨_,Qe Om⟩;refine .inr ⟨addF out (zu d6).1,[],step _ _ ?_,q32 hG hgf,by rw[qs6];exact h40,Sx,Sx,Sx,.inr (.inr ⟨rfl,Qf.2 o8.1,o8.2,e,_,_,by simp[he],(hG e (Qm he)).2.1,q33 he,hop,bf⟩)⟩;unfold qqm;rw[if_pos hf];exact⟨hfo,rfl⟩
      .exact .inl ⟨by rw[m8,<-hR,q5p hf hu],o8.1,o8.2,hu⟩
     .have hf:¬qev d6 (x.text::(L.map λx=>x.text).drop (k+1))=true:=by simpa[qev]using o8
      refine .inr ⟨out,d6,step _ _ ?_,hG.mono Om,h40,hh,b9,hhb,?_⟩
      .unfold qqm
       rw[if_neg hf];exact⟨rfl,rfl⟩
      .by_cases h0:d6=[]
       .exact .inl ⟨rfl,rfl,h0⟩
       .exact .inr (.inl ⟨rfl,rfl,Qf.2 h0,Classical.byContradiction λh=>o8 ⟨h0,h⟩⟩)
    rcases hmain with⟨hnn,h0,sc,hu⟩|⟨o,h,⟨e7,hh0⟩,hG',h40',hh',hne',hhb',gf⟩
    .have hz:0<d6.length:=Qf.2 h0
     rw[decide_eq_false sc]at gc;rw[hnn];unfold qdm;generalize(zu d6).2=n at bf hu;generalize(zu d6).1=f at bf;obtain⟨fk,fv⟩:=f;apply qd [];repeat' (first|apply Qa|(intro h;try exact cDd)|(refine Qb (k) ⟨Om,_,g9,?_⟩)|exact⟨Tryz.call144⟩|refine cpe gc ?_|exact⟨Tryz.call136⟩|refine cpe bf ?_|exact cSd|apply qb []|refine exr ?_|refine qe ?_)
    clear hR hG h40 hh b9 hhb;unfold q3t at e7;have hmo':(o.map zt).length=o.length:=Sx
    have hmh':(h.map λx=>Sv x).length=h.length:=Sx
    by_cases h2:[32,32]<+:x.text
    .have h2l:2<=x.text.length:=h2.length_le
     rw[decide_eq_true h2]at t8;rw[if_pos h2]at e7;by_cases ho:o=[]
     .rw[if_pos ho]at e7
      have hnn:qdn text=none:=by rw[m8,<-e7]
      rw[hnn];unfold qdm;rcases gf with⟨rfl,rfl,h0⟩|⟨rfl,rfl,h0,sc⟩|⟨_,_,_,_,_,_,_,_,e,h0,_⟩
      .have hz:h.length=0:=by simp[h0]
       have hz2:o.length=0:=by simp[ho]
       apply qd [];repeat' (first|apply Qa|(intro h;try exact cDd)|(refine Qb (k) ⟨Om,_,g9,?_⟩)|exact⟨Tryz.call144⟩|refine cpe t8 ?_|exact cSd|apply qb []|refine exr ?_|refine qe ?_)
      .have hz2:o.length=0:=by simp[ho]
       rw[decide_eq_true sc]at gc;apply qd [];repeat' (first|apply Qa|(intro h;try exact cDd)|(refine Qb (k) ⟨Om,_,g9,?_⟩)|exact⟨Tryz.call144⟩|refine cpe gc ?_|exact⟨Tryz.call144⟩|refine cpe t8 ?_|exact cSd|apply qb []|refine exr ?_|refine qe ?_)
      .exact absurd (congrArg Qp (ho.symm.trans e)) So
     .rw[if_neg ho]at e7
      have hz2:0<o.length:=Qf.2 ho
      have hhs:∀s∈h++[x.text.drop 2],s.length<1000000:=λs hs=>by
       rcases Qr.1 hs with hs|hs
       .exact hhb' s hs
       .obtain rfl:=Zb.1 hs
        rw[List.length_drop];omega
      obtain⟨hn,hhn⟩:∃hn,hn=h++[x.text.drop 2]:=⟨_,rfl⟩;have rl:hn.length<=k+1:=by rw[hhn];simp;omega
      rw[<-hhn]at e7 hhs;rcases gf with⟨rfl,rfl,h0⟩|⟨rfl,rfl,h0,sc⟩|⟨rfl,h0,sc,e,fk,fv,heA,hef,bc,hop,hun'⟩
      case' neg.inl=>have hz:h.length=0:=by simp[h0]
      case' neg.inr.inl=>rw[decide_eq_true sc]at gc
      case' neg.inr.inr=>
       rw[decide_eq_false sc]at gc;have hmf:(e.fields.map fldA).length=e.fields.length:=Sx
       have mw:out.length=o.length:=by rw[bc,Zt]
       have fm:((out.map zt).set (out.length-1) (.ag [Iv e.kind,Iv e.id,.sl 2 (e.fields.map fldA++[fldA (fk,fv)]) none])).length=o.length:=by simp[mw]
      all_goals
       apply qd [];repeat' (first|apply Qa|(intro h;try exact cDd)|(refine Qb (k) ⟨Om,_,g9,?_⟩)|exact⟨Tryz.call144⟩|refine cpe gc ?_|exact⟨Tryz.call144⟩|refine cpe t8 ?_|exact⟨Tryz.call136⟩|refine cpe hun' ?_|(refine qgn (i:=out.length-1) rfl rfl rfl (congrArg (λx=>some (IntKind.i64,x)) Om) rfl rfl Om ?_)|(refine qik (i:=out.length-1) (j:=2) rfl rfl rfl rfl heA rfl rfl ?_)|(refine qpg (i:=out.length-1) (j:=2) (z:=zt e) (z':=.ag [Iv e.kind,Iv e.id,.sl 2 (e.fields.map fldA++[fldA (fk,fv)]) none]) (u:=.sl 2 (e.fields.map fldA++[fldA (fk,fv)]) none) rfl rfl rfl rfl rfl rfl heA rfl rfl ?_)|(refine Qb (k+1,o,hn) ⟨⟨hG',h40',rl,Om,λ_=>ho,hhs,.inl ⟨Om,e7⟩⟩,by simp only;omega,?_⟩)|exact cSd|apply qb []|refine exr ?_|refine qe ?_)
       all_goals first|(simp[hhn];done)|(rw[bc,Zo];simp[zt,jd,Zg];done)
    .rw[decide_eq_false h2]at t8
     rw[if_neg h2]at e7;obtain rfl:h=[]:=hh0.resolve_right λq=>h2 (gq q);rcases gf with⟨rfl,rfl,h0⟩|⟨_,_,_,sc⟩|⟨_,h0,sc,e,fk,fv,heA,hef,bc,hop,hun'⟩
     case neg.inr.inl=>exact absurd (gq sc) h2
     case' neg.inr.inr=>
      rw[decide_eq_false sc]at gc;have hmf:(e.fields.map fldA).length=e.fields.length:=Sx
      have mw:out.length=o.length:=by rw[bc,Zt]
      have fm:((out.map zt).set (out.length-1) (.ag [Iv e.kind,Iv e.id,.sl 2 (e.fields.map fldA++[fldA (fk,fv)]) none])).length=o.length:=by simp[mw]
     all_goals
      apply qd [];repeat' (first|apply Qa|(intro h;try exact cDd)|(refine Qb (k) ⟨Om,_,g9,?_⟩)|exact⟨Tryz.call144⟩|refine cpe gc ?_|exact⟨Tryz.call144⟩|refine cpe t8 ?_|exact⟨Tryz.call136⟩|refine cpe hun' ?_|(refine qgn (i:=out.length-1) rfl rfl rfl (congrArg (λx=>some (IntKind.i64,x)) Om) rfl rfl Om ?_)|(refine qik (i:=out.length-1) (j:=2) rfl rfl rfl rfl heA rfl rfl ?_)|(refine qpg (i:=out.length-1) (j:=2) (z:=zt e) (z':=.ag [Iv e.kind,Iv e.id,.sl 2 (e.fields.map fldA++[fldA (fk,fv)]) none]) (u:=.sl 2 (e.fields.map fldA++[fldA (fk,fv)]) none) rfl rfl rfl rfl rfl rfl heA rfl rfl ?_)|exact cSd|apply qb []|refine exr ?_|refine qe ?_)
      refine zw (X:=Nat×Int×Int) (λ(j,a,b)=>⟨[(0,.s text),(4,.tp 0),(5,.tp 1),(6,.a (lnsA L)),(7,.i k),(11,.s x.text),(12,.bx 2 0),(13,.i ((j:Int)+1))],[(0,some (.own 3 44 (o.map zt))),(1,some (.tip 1 9 [])),(2,some (.cells 44 [.i a,.i b,.a zm]))],3⟩)
       (λ(j,a,b)=>j<=3∧qob x.text j a b) (λ(j,_,_)=>3-j) (0,0,0) ⟨Om,.inl ⟨rfl,rfl,rfl⟩⟩ ?_ ?_
      .skip
       repeat' (first|apply Qa|(intro h;try exact cDd)|exact cSd|apply qb []|refine exr ?_|refine qe ?_)
       all_goals first|(simp;done)|(rw[bc,Zo];simp[zt,jd,Zg];done)
      .rintro⟨j,a,b⟩ ⟨hj,hta⟩
       by_cases hj3:j=3
       .subst hj3
        unfold qob at hta;rw[q93]at hta;rcases hta with⟨rfl,rfl,hb⟩|⟨ha,hb⟩
        .rw[hb]at e7
         have hnn:qdn text=none:=by rw[m8,<-e7]
         rw[hnn];unfold qdm;apply qd [];repeat' (first|apply Qa|(intro h;try exact cDd)|exact cSd|apply qb []|refine exr ?_|refine qe ?_)
        .rw[hb]at e7
         simp only at e7;by_cases h40o:40<=o.length
         .rw[if_pos h40o]at e7
          have hnn:qdn text=none:=by rw[m8,<-e7]
          rw[hnn];unfold qdm;apply qd [];repeat' (first|apply Qa|(intro h;try exact cDd)|exact cSd|apply qb []|refine exr ?_|refine qe ?_)
         .rw[if_neg h40o]at e7
          have sj:OutG (o++[⟨a,b,[]⟩]) (k+1):=λy hy=>by
           rcases Qr.1 hy with hy|hy
           .exact hG' y hy
           .obtain rfl:=Zb.1 hy
            exact⟨Sx,Sx,ze6 hb⟩
          apply qd [];repeat' (first|apply Qa|(intro h;try exact cDd)|(refine zdj (ys:=[zt ⟨a,b,[]⟩]) rfl rfl rfl rfl rfl rfl rfl rfl So rfl ?_)|(refine Qb (k+1,o++[⟨a,b,[]⟩],[]) ⟨⟨sj,So,Sx,Om,Sx,Sx,.inl ⟨Om,e7⟩⟩,by simp only;omega,?_⟩)|exact cSd|apply qb []|refine exr ?_|refine qe ?_)
          all_goals (simp;done)
       .obtain⟨H,hH⟩:∃H,H=qag ((j:Int)+1):=⟨_,rfl⟩
        have hj012:j=0∨j=1∨j=2:=Om
        have hHl:H.length<=9:=by
         rw[hH];rcases hj012 with rfl|rfl|rfl <;>decide
        have hli:∀st,qp E 60 [zt ⟨(j:Int)+1,0,[]⟩] st λr st'=>r=Sv (H++[48])∧st'=st:=λst=>by
         have:=q2h ⟨(j:Int)+1,0,[]⟩ st Sx Sx;unfold km at this;rw[if_pos (by constructor <;>simp only <;>omega),h0i,<-hH]at this;exact this
        have i7:(H++[48]).take H.length=H:=Zk;have htr:qkz x.text (j+1)=tryR x.text (qkz x.text j) ((j:Int)+1):=rfl;unfold tryR at htr;rw[<-hH]at htr
        have htr2:(if H<+:x.text then match numZ (x.text.drop H.length)with
         |some n=>some ((j:Int)+1,n)
         |none=>qkz x.text j else qkz x.text j)=qkz x.text (j+1):=htr.symm
        by_cases hp:H<+:x.text
        .rw[if_pos hp]at htr2
         have dx:=hp.length_le;have hbH:=λst=>q7d x.text ((H++[48]).take H.length) true (by rw[i7];exact decide_eq_true hp) st
         cases hz:numZ (x.text.drop H.length)with
         |none=>
          rw[hz]at htr2;have hnu:∀st,qp E 132 [Sv (x.text.drop H.length)] st λr st'=>r=.tu [Iv 0,Bv false]∧st'=st:=λst=>qh3 _ st So hz;have hta':qob x.text (j+1) a b:=by unfold qob at hta⊢;rw[<-htr2];exact hta
          apply qd [];repeat' (first|apply Qa|(intro h;try exact cDd)|exact⟨Tryz.call60⟩|refine cpe hli ?_|(refine Qb H.length ⟨Sx,?_⟩)|exact⟨Tryz.call144⟩|refine cpe hbH ?_|exact⟨Tryz.call132⟩|refine cpe hnu ?_|(refine Qb (j+1,a,b) ⟨⟨Om,hta'⟩,by simp only;omega,?_⟩)|exact cSd|apply qb []|refine exr ?_|refine qe ?_)
          all_goals first|(simp[i7];done)|(simp[i7];omega)|omega
         |some n=>
          rw[hz]at htr2;have hnu:∀st,qp E 132 [Sv (x.text.drop H.length)] st λr st'=>r=.tu [Iv n,Bv true]∧st'=st:=λst=>qe2 _ n st So hz;have hta':qob x.text (j+1) ((j:Int)+1) n:=.inr ⟨Om,htr2.symm⟩;apply qd [];repeat' (first|apply Qa|(intro h;try exact cDd)|exact⟨Tryz.call60⟩|refine cpe hli ?_|(refine Qb H.length ⟨Sx,?_⟩)|exact⟨Tryz.call144⟩|refine cpe hbH ?_|exact⟨Tryz.call132⟩|refine cpe hnu ?_|(refine Qb (j+1,(j:Int)+1,n) ⟨⟨Om,hta'⟩,by simp only;omega,?_⟩)|exact cSd|apply qb []|refine exr ?_|refine qe ?_)
          all_goals first|(simp[i7];done)|(simp[i7];omega)|omega
        .rw[if_neg hp]at htr2
         have hbH:=λst=>q7d x.text ((H++[48]).take H.length) false (by rw[i7];exact decide_eq_false hp) st;have hta':qob x.text (j+1) a b:=by unfold qob at hta⊢;rw[<-htr2];exact hta
         apply qd [];repeat' (first|apply Qa|(intro h;try exact cDd)|exact⟨Tryz.call60⟩|refine cpe hli ?_|(refine Qb H.length ⟨Sx,?_⟩)|exact⟨Tryz.call144⟩|refine cpe hbH ?_|(refine Qb (j+1,a,b) ⟨⟨Om,hta'⟩,by simp only;omega,?_⟩)|exact cSd|apply qb []|refine exr ?_|refine qe ?_)
         all_goals first|(simp[i7];done)|(simp[i7];omega)|omega
  .have hB:=zgl hG Om
   rw[hR]at m8;simp only at m8;have s7:=λst=>qlp out st hB Om;by_cases he:eErr out=.no
   .have u0:=λst=>qj8 out st hB he
    rw[he]at s7;by_cases ht:encF out=text
    .rw[if_pos ⟨he,ht⟩]at m8
     rw[m8];rw[ht]at u0;refine qz3 4 rfl rfl ?_;apply qd [];repeat' (first|apply Qa|(intro h;try exact cDd)|exact⟨Tryz.call53⟩|refine cpe s7 ?_|exact⟨Tryz.call28⟩|refine cpe u0 ?_|exact cSd|apply qb []|refine exr ?_|refine qe ?_)
    .rw[if_neg (λh=>ht h.2)]at m8
     rw[m8];unfold qdm;refine qz3 4 rfl rfl ?_;apply qd [];repeat' (first|apply Qa|(intro h;try exact cDd)|exact⟨Tryz.call53⟩|refine cpe s7 ?_|exact⟨Tryz.call28⟩|refine cpe u0 ?_|exact absurd ht (by assumption)|exact cSd|apply qb []|refine exr ?_|refine qe ?_)
   .rw[if_neg (λh=>he h.1)]at m8
    rw[m8];have h0:¬(eErr out).code=0:=λh=>he ((qdr out).1 h);generalize(eErr out).code=c at s7 h0;generalize(eErr out).pos=c2 at s7;unfold qdm;refine qz3 4 rfl rfl ?_;apply qd [];repeat' (first|apply Qa|(intro h;try exact cDd)|exact⟨Tryz.call53⟩|refine cpe s7 ?_|exact cSd|apply qb []|refine exr ?_|refine qe ?_)
end Go.Proofs.YtlekheifonaipaaGreatDoor
namespace Go.Pl
open Go Go.Proofs Go.Proofs.YtlekheifonaipaaGreatDoor
structure jy where
 gen:Int
 base:qa
 batches:List (List qm)
 ends : List Int
 tail:qa
def qar:jy:=⟨0,[],[],[],[]⟩
def jx(text:qa):ErrV:=if 60000<text.length then .num 1 else match(jl text).1 with
 |none=>.no
 |some (a,n)=>.at' a n
def recsF:Nat->qa->Int->List (List qm)->List Int->Bool×List (List qm)×List Int×qa
 |0,l,_,bs,es=>(false,bs,es,l)
 |f+1,l,a,bs,es=>
  if(zi l).1=2 then(false,bs,es,l)
  else if(zi l).1=1 then match decF (zi l).2.1 with
   |some b=>recsF f (l.drop (zi l).2.2.toNat) (a+(zi l).2.2) (bs++[b]) (es++[a+(zi l).2.2])
   |none=>(true,bs,es,l)
  else(true,bs,es,l)
def qcx(text:qa):qa:=(wv text).2
def atH(text:qa):Nat:=jf (qcx text).length (qcx text)
def qhq(text:qa):qa:=(qcx text).take (atH text)
def qd3(text:qa):Bool×List (List qm)×List Int×qa:=recsF (text.length+1) ((qcx text).drop (atH text)) (((text.length-(qcx text).length+atH text:Nat)):Int) [] []
def zx(text:qa):ErrV×jy:=
 if 120000<text.length then(.num 1,qar)
 else match jx (qhq text)with
  |.no=>if(qd3 text).1=true then(.at' (qd3 text).2.1.length 10,qar)else(.no,⟨(wv text).1,qhq text,(qd3 text).2.1,(qd3 text).2.2.1,(qd3 text).2.2.2⟩)
  |e=>(e,qar)
structure qem (b:List qm):Prop where
 ok:eErr b=.no
 B:∀x∈b,EdB x
 len:(encF b).length<=50000
theorem qem.dec{b:List qm}(h:qem b):decF (encF b)=some b:=zag h.ok h.B h.len
theorem qem.good{b:List qm}(h:qem b):yw (encF b):=zfm h.ok h.B h.len
theorem zjh{t:qa}{b:List qm}(h:decF t=some b):qem b∧encF b=t:=by
 obtain⟨h1,h2,h3⟩:=q44 h;exact⟨⟨h1,zfh h,by rw[h2];exact h3⟩,h2⟩
def recE(b:List qm):qa:=recF (encF b)
def vf(bs:List (List qm)):qa:=bs.flatMap recE
def qat(a:Int):List (List qm)->List Int
 | []=>[]
 |b::r=>(a+(recE b).length)::qat (a+(recE b).length) r
theorem qa8(b:List qm)(r:List (List qm)):vf (b::r)=recE b++vf r:=rfl
theorem qpq(r:List (List qm))(b:List qm):vf (r++[b])=vf r++recE b:=by simp[vf]
theorem qxd:∀(r:List (List qm))(a:Int)(b:List qm),qat a (r++[b])=qat a r++[a+(vf r).length+(recE b).length]
 | [],a,b=>by simp[qat,vf]
 |x::r,a,b=>by
  rw[Zs,qat,qat,qxd r,qa8];simp;omega
theorem qlc:∀(r:List (List qm))(a:Int),(qat a r).length=r.length
 | [],_=>rfl
 |x::r,a=>by rw[qat];simp[qlc r]
theorem qxc:∀(r:List (List qm))(a:Int),r≠[]->(qat a r).getLast?=some (a+(vf r).length)
 | [],_,h=>absurd rfl h
 | [x],a,_=>by simp[qat,vf]
 |x::y::r,a,_=>by
  have:=qxc (y::r) (a+(recE x).length) Sx;rw[qat,Zp];rw[this,qa8 x];simp;omega
theorem qvi(b:List qm):0<(recE b).length:=by
 unfold recE;rw[qn1];simp[recL,wt,zb]
theorem q7b:∀(bs:List (List qm))(f:Nat)(t:qa)(a:Int)(xs:List (List qm))(es:List Int),(∀b∈bs,qem b)->(zi t).1=2->bs.length<f->
  recsF f (vf bs++t) a xs es=(false,xs++bs,es++qat a bs,t)
 | [],f+1,t,a,xs,es,_,ht,_=>by
  rw[recsF];simp only[vf,List.flatMap_nil,Zh,qat,Qj]
  rw[if_pos ht]
 |b::r,f+1,t,a,xs,es,h,ht,hf=>by
  have hb:=h b Sx
  have i8:zi (vf (b::r)++t)=(1,encF b,((recE b).length:Int)):=by
   rw[qa8,Ql];exact zkp _ hb.good
  have hdr:(vf (b::r)++t).drop (recE b).length=vf r++t:=by
   rw[qa8,Ql,Qi]
  rw[recsF,i8];simp only;rw[if_neg (by decide),if_pos trivial,hb.dec];simp only[Qn];rw[hdr,q7b r f t _ _ _ (λx hx=>h x (by simp[hx])) ht (by simp at hf;omega)];simp[qat]
theorem q7a:∀(f:Nat)(l:qa)(a:Int)(xs xs':List (List qm))(es es':List Int)(t:qa),l.length<f->recsF f l a xs es=(false,xs',es',t)->
  ∃bs,l=vf bs++t∧xs'=xs++bs∧es'=es++qat a bs∧(∀b∈bs,qem b)∧(zi t).1=2
 |0,l,a,xs,xs',es,es',t,hl,h=>absurd hl Om
 |f+1,l,a,xs,xs',es,es',t,hl,h=>by
  rw[recsF]at h;split at h
  .rename_i h2
   simp only[Zc,true_and]at h;obtain⟨rfl,rfl,rfl⟩:=h;exact⟨[],by simp[vf],Sx,by simp[qat],Sx,h2⟩
  .split at h
   .rename_i h1
    split at h
    .rename_i b hd
     obtain⟨hg,he⟩:=zjh hd;have i8:zi l=(1,(zi l).2.1,(zi l).2.2):=by rw[<-h1]
     obtain⟨_,m,hm,hn⟩:=qya i8;rw[<-he]at hm hn;have hm':l=recE b++m:=hm;have nw:(zi l).2.2=((recE b).length:Int):=hn;have cx:=qvi b;have d5:l.length=(recE b).length+m.length:=by rw[hm'];simp
     have hdr:l.drop (recE b).length=m:=by
      conv=>lhs;rw[hm']
      rw[Qi]
     rw[nw,Qn,hdr]at h;obtain⟨bs,e1,e2,e3,e4,e5⟩:=q7a f m _ _ _ _ _ _ Om h;refine⟨b::bs,?_,by rw[e2];simp,by rw[e3];simp[qat],?_,e5⟩
     .rw[qa8,Ql,<-e1]
      exact hm'
     .intro x hx
      rcases Qh.1 hx with rfl|hx
      .exact hg
      .exact e4 x hx
    .simp at h
   .simp at h
structure xz (text:qa) (b:jy):Prop where
 txt:text=wa b.gen++(b.base++(vf b.batches++b.tail))
 gen:wv text=(b.gen,b.base++(vf b.batches++b.tail))
 parse:jx b.base=.no
 good:∀x∈b.batches,qem x
 tail:(zi b.tail).1=2
 ends : b.ends = qat ((wa b.gen).length + b.base.length) b.batches
 len:text.length<=120000
def BegP(x:qa):Prop:=x=[]∨begF (upto 10 x)=true
theorem ze5{t:qa}(h:(zi t).1=2):BegP t:=by
 by_cases h0:t=[]
 .exact .inl h0
 .obtain⟨n,fig,body,R,hp,_⟩:=znf h
  obtain⟨_,_,_,_,_,hx⟩:=R;exact .inr (ze8 hx hp h0)
theorem q0w{bs:List (List qm)}{t:qa}(hg:∀b∈bs,qem b)(h:(zi t).1=2):BegP (vf bs++t):=by
 cases bs with
 |nil=>exact ze5 h
 |cons b r=>
  refine .inr ?_;rw[qa8,Ql];exact zl7 _ (hg b Sx).good
theorem ze4{x:qa}(h:BegP x):x=[]∨x.head?=some 37:=by
 rcases h with h|h
 .exact .inl h
 .simp only[begF,decide_eq_true_eq]at h
  cases x with
  |nil=>exact .inl rfl
  |cons c r=>
   refine .inr ?_;have h1:=h.1;unfold upto at h1;by_cases hc:c=10
   .subst hc;simp at h1
   .simpa[hc]using h1
theorem qrw{l:qa}(h:jx l=.no):(∀p∈zo l,begF p.1=false∧p.2=true)∧l.length<=60000:=by
 unfold jx at h;split at h
 .simp at h
 .split at h
  .rename_i hp
   exact⟨q9i hp,Om⟩
  .simp at h
theorem zck{l x:qa}(h:jx l=.no)(hx:BegP x):jf (l++x).length (l++x)=l.length:=by
 rw[qws _ _ l x (Qd _) (qrw h).1];rcases hx with rfl|hx
 .rw[qfb];simp
 .by_cases h0:x=[]
  .subst h0;rw[qfb];simp
  .rw[qki h0 hx]
   simp
theorem zaa{text:qa}{b:jy}(h:xz text b):zx text=(.no,b):=by
 have hr:qcx text=b.base++(vf b.batches++b.tail):=by unfold qcx;rw[h.gen]
 have ha:atH text=b.base.length:=by
  unfold atH;rw[hr];exact zck h.parse (q0w h.good h.tail)
 have hb:qhq text=b.base:=by
  unfold qhq;rw[ha,hr,Zk]
 have hl:text.length-(qcx text).length=(wa b.gen).length:=by
  rw[hr]
  conv=>lhs;rw[h.txt]
  simp
 have hc:qd3 text=(false,b.batches,b.ends,b.tail):=by
  unfold qd3;rw[hl,ha,hr,Qi,q7b b.batches _ b.tail _ _ _ h.good h.tail]
  .rw[h.ends]
   simp
  .have:∀bs:List (List qm),bs.length<=(vf bs).length:=λbs=>by
    induction bs with
    |nil=>simp
    |cons x r ih=>
     have:=qvi x;rw[qa8];simp;omega
   have:=this b.batches;rw[h.txt];simp;omega
 have d5:=h.len;unfold zx;rw[if_neg Om,hb,h.parse,hc,h.gen];simp
theorem qic{text:qa}{b:jy}(h:zx text=(.no,b)):xz text b:=by
 unfold zx at h;split at h
 .simp at h
 .rename_i d5
  split at h
  .rename_i hp
   split at h
   .simp at h
   .rename_i hc
    simp only[Zc,true_and]at h;subst h;have hs:=qjk text;have d7:atH text<=(qcx text).length:=(qqw _ _ _ (Qd _) (Qd _)).2
    have dg:(qcx text).length<=text.length:=by
     conv=>rhs;rw[hs.1]
     unfold qcx;simp
    have hhl:text.length-(qcx text).length=(wa (wv text).1).length:=by
     have:text.length=(wa (wv text).1).length+(qcx text).length:=by
      conv=>lhs;rw[hs.1]
      unfold qcx;simp
     omega
    have hq:qd3 text=(false,(qd3 text).2.1,(qd3 text).2.2.1,(qd3 text).2.2.2):=by
     have:(qd3 text).1=false:=by simpa using hc
     rw[<-this]
    obtain⟨bs,e1,e2,e3,e4,e5⟩:=q7a _ _ _ _ _ _ _ _ So (show recsF (text.length+1) _ _ _ _=_ from hq);simp only[Zh]at e2 e3;have cz:(qhq text).length=atH text:=by unfold qhq;simp;omega
    have hrest:qcx text=qhq text++(vf bs++(qd3 text).2.2.2):=by
     rw[<-e1];unfold qhq;rw[Qq]
    refine⟨?_,?_,hp,?_,e5,?_,Om⟩
    .simp only
     rw[e2,<-hrest];exact hs.1
    .simp only
     rw[e2,<-hrest];rfl
    .simp only
     rw[e2];exact e4
    .simp only
     rw[e2,e3,cz,hhl];simp
  .rename_i hp
   simp only[Zc]at h;exact absurd h.1 hp
def y8(b:jy):qa:=wa b.gen++(b.base++vf b.batches)
def qbr(b:jy):Int:=match b.ends.getLast? with
 |some e=>e
 |none=>((wa b.gen).length+b.base.length:Nat)
theorem xz.split{text:qa}{b:jy}(h:xz text b):text=y8 b++b.tail:=by
 have:=h.txt;unfold y8
 simpa using this
theorem xz.whole{text:qa}{b:jy}(h:xz text b):qbr b=((y8 b).length:Int):=by
 unfold qbr;rw[h.ends];by_cases h0:b.batches=[]
 .rw[h0]
  simp[qat,y8,h0,vf]
 .rw[qxc _ _ h0]
  simp[y8];omega
theorem xz.take{text:qa}{b:jy}(h:xz text b):text.take (qbr b).toNat=y8 b:=by
 rw[h.whole,Qn]
 conv=>lhs;rw[h.split]
 rw[Zk]
theorem zc4{l:qa}(h:l≠[])(hp:∀p∈zo l,p.2=true):l.getLast?=some 10:=by
 have:∀(k:Nat)(l:qa),l.length<=k->l≠[]->(∀p∈zo l,p.2=true)->l.getLast?=some 10:=by
  intro k
  induction k with
  |zero=>intro l hl h0;exact absurd (Qo.1 Om) h0
  |succ k ih=>
   intro l hl h0 hp;rw[wl h0]at hp;have i3:10∈l:=by simpa using hp _ (Zn ..)
   have e:=wo i3;by_cases hq:past 10 l=[]
   .rw[hq]at e
    rw[e];simp
   .have:=ih (past 10 l) (by have:=xq (c:=10) h0;omega) hq λp pb=>hp p (by simp[pb])
    rw[e];rw[List.getLast?_append,Zp,this];simp
 exact this _ l (Qd _) h hp
theorem zmu{l x:qa}{n:Int}(h:∀p∈zo l,p.2=true)(hx:x=[]∨x.head?=some 37)(hp:qaa n<+:l++x):qaa n<+:l:=by
 rcases qg6 hp with h1|⟨r,h1,hr⟩
 .exact h1
 .by_cases hr0:r=[]
  .rw[h1,hr0,Qj]
   exact Za _
  .exfalso
   obtain⟨c,q,rfl⟩:=Qx hr0
   have hc:c=37:=by
    obtain⟨t,ht⟩:=hr;rcases hx with rfl|hx
    .simp at ht
    .rw[<-ht]at hx
     simpa using hx
   subst hc;by_cases hl:l=[]
   .rw[hl]at h1
    simp[qaa,genL]at h1
   .have r8:=zc4 hl h
    obtain⟨q0,hq0⟩:∃q0,l=q0++[10]:=by
     have:=qtm r8;exact⟨_,this.symm⟩
    have e:genL++Lib.itoa n++10::[10]=q0++10::(37::q):=by
     have:=h1;unfold qaa at this;rw[hq0]at this
     simpa using this
    have hu10:10∉genL++Lib.itoa n:=by
     intro h;rcases Qr.1 h with h|h
     .revert h;decide
     .exact qo4 n h
    have hA:=v8 (c:=10) [10] hu10;have hB:=xw (c:=10) [10] hu10;rw[e]at hA hB;by_cases hq10:10∈q0
    .have e2:=wo hq10
     have e3:q0++10::(37::q)=upto 10 q0++10::(past 10 q0++10::(37::q)):=by
      conv=>lhs;rw[e2]
      simp
     rw[e3,xw _ (yy 10 q0)]at hB;have:=congrArg Qp hB;simp at this;omega
    .rw[xw _ hq10]at hB
     simp at hB
theorem zec{l x y:qa}(h:∀p∈zo l,p.2=true)(hx:wv (l++x)=(0,l++x))(hy:y=[]∨y.head?=some 37):wv (l++y)=(0,l++y):=by
 refine qsb λn r hg e=>?_;obtain⟨t,ht⟩:=zmu (n:=n) h hy ⟨r,e.symm⟩;have:wv (l++x)=(n,t++x):=by rw[<-ht,Ql,qp0 hg]
 rw[hx]at this;have h0:(0:Int)=n:=(Zy this).1;have:=hg.1;omega
theorem xz.gen0{text:qa}{b:jy}(h:xz text b):b.gen=0∨x9 b.gen:=by
 have:=(qjk text).2;rw[h.gen]at this;exact this
theorem xz.other{text:qa}{b:jy}(h:xz text b){bs:List (List qm)}{t:qa}(hg:∀x∈bs,qem x)(ht:(zi t).1=2)(d5:(wa b.gen++(b.base++(vf bs++t))).length<=120000):
  xz (wa b.gen++(b.base++(vf bs++t))) ⟨b.gen,b.base,bs,qat ((wa b.gen).length+b.base.length) bs,t⟩:=by
 refine⟨rfl,?_,h.parse,hg,ht,rfl,d5⟩;rcases h.gen0 with h0|h0
 .have hgen:=h.gen
  have htext:=h.txt;have e:wa b.gen=[]:=by unfold wa;rw[if_neg (by rw[h0];decide)]
  rw[e,Zh]at htext⊢;rw[h0,htext]at hgen;simp only;rw[h0];exact zec (λp hp=>((qrw h.parse).1 p hp).2) hgen (ze4 (q0w hg ht))
 .have e:wa b.gen=qaa b.gen:=by unfold wa;rw[if_pos h0]
  simp only;rw[e,qp0 h0]
theorem zko:zi []=(2,[],0):=by
 unfold zi yn;rw[if_neg Sx,if_pos];rw[if_neg (by decide)];decide
theorem xz.more{text:qa}{b:jy}(h:xz text b){x:List qm}(hx:qem x)(hl:(y8 b++recE x).length<=120000):xz (y8 b++recE x) {b with batches:=b.batches++[x],ends:=b.ends++[qbr b+(recE x).length],tail:=[]}:=by
 have e:wa b.gen++(b.base++(vf (b.batches++[x])++[]))=y8 b++recE x:=by simp[y8,qpq]
 have:=h.other (bs:=b.batches++[x]) (t:=[]) (λy hy=>by
  rcases Qr.1 hy with hy|hy
  .exact h.good y hy
  .obtain rfl:=Zb.1 hy
   exact hx) (by rw[zko]) (by rw[e];exact hl)
 rw[e,qxd,<-h.ends]at this
 have hw:((wa b.gen).length+b.base.length+(vf b.batches).length+(recE x).length:Int)=qbr b+(recE x).length:=by
  rw[h.whole];simp[y8];omega
 rw[hw]at this;exact this
def appF(text:qa)(x:List qm):ErrV×qa:=
 match(zx text).1 with
 |.no=>match eErr x with
  |.no=>if 50000<(encF x).length then(.num 11,[])else if 120000<qbr (zx text).2+(recE x).length then(.num 11,[])else(.no,text.take (qbr (zx text).2).toNat++recE x)
  |e=>(e,[])
 |e=>(e,[])
end Go.Pl
namespace Go.Proofs.YtlekheifonaipaaGreatDoor
open Go Go.Av Go.RowKit Go.Proofs Go.Pl
theorem qox(n:Int)(st:List AObj)(h:x9 n):qp E 100 [Iv n] st λr st'=>r=.tu [Sv (qaa n),.v .nilIface]∧st'=st:=by
 have h1:=h.1;have h2:=h.2;have hl:=qmg (v:=n) Om Om;have tj:=λst=>qrf n st Om Om;refine ze [.i n] (ju (qr _) (qr _)) Tryz.func100 rfl rfl (λ_=>rfl) rfl λS0=>?_;apply qd [];repeat' (first|apply Qa|(intro h;try exact cDd)|exact⟨Tryz.call117⟩|refine cpe tj ?_|exact cSd|apply qb []|refine exr ?_|refine qe ?_)
 all_goals first|(simp;omega)|(simp[qaa,genL];done)
theorem q5x(n:Int)(st:List AObj)(h:¬x9 n):qp E 100 [Iv n] st λr st'=>r=.tu [Sv [],.ifc 61 (Iv 1)]∧st'=st:=by
 refine ze [.i n] (ju (qr _) (qd2 (qr _))) Tryz.func100 rfl rfl (λ_=>rfl) rfl λS0=>?_;unfold x9 at h;apply qd [];repeat' (first|apply Qa|(intro h;try exact cDd)|exact cSd|apply qb []|refine exr ?_|refine qe ?_)
theorem zf1(n:Int)(st:List AObj):qp E 56 [Iv n] st λr st'=>r=Iv ((wa n).length:Nat)∧st'=st:=by
 refine ze [.i n] (qr _) Tryz.func56 rfl rfl (λ_=>rfl) rfl λS0=>?_;by_cases hg:x9 n
 .have e:wa n=qaa n:=by unfold wa;rw[if_pos hg]
  have hln:=λst=>qox n st hg;rw[e];apply qd [];repeat' (first|apply Qa|(intro h;try exact cDd)|exact⟨Tryz.call100⟩|refine cpe hln ?_|exact cSd|apply qb []|refine exr ?_|refine qe ?_)
 .have e:wa n=[]:=by unfold wa;rw[if_neg hg]
  have hln:=λst=>q5x n st hg;rw[e];apply qd [];repeat' (first|apply Qa|(intro h;try exact cDd)|exact⟨Tryz.call100⟩|refine cpe hln ?_|exact cSd|apply qb []|refine exr ?_|refine qe ?_)
theorem zh1(l:qa)(st:List AObj):qp E 106 [Sv (genL++l),Sv [35,37,103,101,110,32]] st λr st'=>r=Sv l∧st'=st:=by
 have:=qlu (genL++l) [35,37,103,101,110,32] st;rw[qd9 (show [35,37,103,101,110,32]<+:genL++l from Zm genL l)]at this;have e:(genL++l).drop ([35,37,103,101,110,32]:qa).length=l:=by rw[show([35,37,103,101,110,32]:qa).length=genL.length by rfl,Qi]
 rw[e]at this;exact this
set_option maxHeartbeats 2000000 in
theorem zmv(text:qa)(st:List AObj)(hl:text.length<1000000):qp E 63 [Sv text] st λr st'=>r=.tu [Iv (wv text).1,Sv (wv text).2]∧st'=st:=by
 refine qz (ju (qr _) (qr _)) (qq Tryz.func63 rfl (Qw rfl) ?_);rcases que text with⟨n,r,hg,he,ht⟩|⟨gp,ht⟩
 .rw[ht]
  have hn10:10∉genL++Lib.itoa n:=λh=>by
   rcases Qr.1 h with h|h
   .revert h;decide
   .exact qo4 n h
  have hcut:∀st,qp E 104 [Sv text,Sv [10,10]] st λx st'=>x=.tu [Sv (genL++Lib.itoa n),Sv r,Bv true]∧st'=st:=λst=>by
   have:=qwz text [10,10] st Om;rw[he,qo5,<-Ql,zoj r hn10]at this;rw[he,qo5,<-Ql];exact this
  have hb:=qmg (v:=n) (by have:=hg.1;omega) (by have:=hg.2;omega);have rg:genL.length=6:=rfl;have hat:=qoh (v:=n) (by have:=hg.1;omega) (by have:=hg.2;omega);repeat' (first|apply qo|apply qf|apply qh|apply qj|apply qg|(apply zf;rfl;rfl)|(apply qk;exact Tryz.call104;exact hcut _)|(apply qk;exact Tryz.call106;exact zh1 _ _))
  refine qgt Tryz.call105 ((qqu (Lib.itoa n) _ Om).mono ?_);rintro _ _ ⟨rfl,n',x,rfl,hx⟩;rcases x with _|⟨t',y⟩
  .simp only at hx
   rw[hat]at hx;have e:n=n':=by simpa using hx
   subst e
   show AOps _ _ _ _ _ _ _
   have hs:qaa n=(genL++Lib.itoa n)++[10,10]:=rfl;have pt:¬qaa n≠(genL++Lib.itoa n)++[10,10]:=λh=>h hs;repeat' (first|apply qo|apply qf|apply qh|apply qj|apply qg|(apply zf;rfl;rfl)|(apply jp;rfl;rfl;rfl)|(apply ja;rfl)|(apply qw;rfl;rfl;rfl;rfl)|(apply qao;exact cRa)|(apply qew;exact cRa)|(apply qi;rfl;apply qfm;exact cRa)|(apply qi;rfl;apply pk_f;exact cRa)|(apply qc;rfl;apply vq;exact cAo)|(apply jz;rfl;rfl;exact cOs)|(apply wh;rfl;rfl)|apply qv|apply qu|(apply qk;exact Tryz.call100;exact qox _ _ hg))
   exact qn rfl (kw rfl) ⟨rfl,_,rfl⟩
  .exact absurd hat (hx n)
 .rw[ht]
  have hfst:=qw0 text [10,10];have hct:=λh=>zi1 (l:=text) (m:=[10,10]) h;have htr:=qge (Lib.cut text [10,10]).1 [35,37,103,101,110,32];have sn:=λst=>qwz text [10,10] st Om;generalize Lib.cut text [10,10]=c at hfst hct htr sn;obtain⟨a,b,d⟩:=c;simp only at hfst hct htr sn;repeat' (first|apply qo|apply qf|apply qh|apply qj|apply qg|(apply zf;rfl;rfl)|(apply qk;exact Tryz.call104;exact sn _)|(apply qk;exact Tryz.call106;exact qlu _ _ _))
  refine qgt Tryz.call105 ((qqu (Lib.trimPrefix a [35,37,103,101,110,32]) _ Om).mono ?_);rintro _ _ ⟨rfl,n,x,rfl,hx⟩
  show AOps _ _ _ _ _ _ _
  have dt:¬(d=true∧x9 n∧qaa n=a++[10,10]):=λ⟨h1,h2,h3⟩=>by
   refine gp n b h2 ?_;rw[h3];exact hct h1
  by_cases hg:x9 n
  .have pn:=q1u hg
   cases d with
   |false=>
    rcases x with _|⟨t',y⟩
    all_goals
     repeat' (first|apply qo|apply qf|apply qh|apply qj|apply qg|(apply zf;rfl;rfl)|(apply ja;rfl)|(apply qw;rfl;rfl;rfl;rfl)|(apply qbs;exact cRa)|(apply qbb;exact cRa)|(apply qi;rfl;apply qjb;exact cRa)|(apply qi;rfl;apply pk_t;exact cRa)|(apply qc;rfl;apply cd_t;exact cRa)|apply qu|(apply qk;exact Tryz.call100;exact qox _ _ hg))
     exact qn rfl (kw rfl) ⟨rfl,_,rfl⟩
   |true=>
    have b9:qaa n≠a++[10,10]:=λh=>dt ⟨rfl,hg,h⟩;rcases x with _|⟨t',y⟩
    all_goals
     repeat' (first|apply qo|apply qf|apply qh|apply qj|apply qg|(apply zf;rfl;rfl)|(apply jp;rfl;rfl;rfl)|(apply ja;rfl)|(apply qw;rfl;rfl;rfl;rfl)|(apply qao;exact cRa)|(apply qew;exact cRa)|(apply qbb;exact cRa)|(apply qi;rfl;apply qfm;exact cRa)|(apply qi;rfl;apply pk_t;exact cRa)|(apply qi;rfl;apply pk_f;exact cRa)|(apply qc;rfl;apply va;exact cAo)|(apply qc;rfl;apply cd_t;exact cRa)|(apply jz;rfl;rfl;exact cOs)|(apply xi;rfl;rfl)|(apply wh;rfl;rfl)|apply qu|(apply qk;exact Tryz.call100;exact qox _ _ hg))
     exact qn rfl (kw rfl) ⟨rfl,_,rfl⟩
  .cases d
   all_goals
    rcases x with _|⟨t',y⟩
    all_goals
     repeat' (first|apply qo|apply qf|apply qh|apply qj|apply qg|(apply zf;rfl;rfl)|(apply ja;rfl)|(apply qw;rfl;rfl;rfl;rfl)|(apply qao;exact cRa)|(apply qbs;exact cRa)|(apply qew;exact cRa)|(apply qbb;exact cRa)|(apply qi;rfl;apply qjb;exact cRa)|(apply qi;rfl;apply qfm;exact cRa)|(apply qi;rfl;apply pk_t;exact cRa)|(apply qi;rfl;apply pk_f;exact cRa)|(apply qc;rfl;apply cd_t;exact cRa)|(apply xi;rfl;rfl)|(apply wh;rfl;rfl)|apply qu|(apply qk;exact Tryz.call100;exact q5x _ _ hg))
     exact qn rfl (kw rfl) ⟨rfl,_,rfl⟩
theorem qje(n:Int)(st:List AObj):qp E 133 [Iv n] st λr st'=>r=Bv (decide (x9 n))∧st'=st:=by
 refine qz (qr _) (qq Tryz.func133 rfl (Qw rfl) ?_);by_cases h1:1<=n
 .by_cases h2:n<=2147483648
  all_goals
   repeat' (first|apply qo|apply qf|apply qh|apply qj|apply qg|(apply qt;rfl;rfl;rfl)|(apply qw;rfl;rfl;rfl;rfl)|(apply xd;exact cAo)|(apply qi;rfl;apply w6;exact cAo)|apply qu)
   exact qn rfl (q5 rfl) ⟨congrArg Bv (by simp[x9,h1,h2]),_,rfl⟩
 .skip
  repeat' (first|apply qo|apply qf|apply qh|apply qj|apply qg|(apply qt;rfl;rfl;rfl)|(apply qw;rfl;rfl;rfl;rfl)|(apply xv;exact cAo)|(apply qi;rfl;apply wu;exact cAo)|apply qu)
  exact qn rfl (q5 rfl) ⟨congrArg Bv (by simp[x9,h1]),_,rfl⟩
theorem zn2{l:qa}{k:Nat}(h:10∉l.take k)(hk:l.length<=k∨l.getD k 0=10)(s8:k<l.length∨l.length<=k):upto 10 l=l.take k:=by
 rcases s8 with d9|ft
 .have e:l.getD k 0=10:=hk.resolve_left Om
  have e2:l=l.take k++10::l.drop (k+1):=by
   conv=>lhs;rw[<-Qq k l,Qg d9]
   congr 2
   simpa[Zw,d9]using e
  conv=>lhs;rw[e2]
  exact v8 _ h
 .rw[Zj ft]at h⊢
  exact xy h
set_option maxHeartbeats 4000000 in
theorem q9t(text:qa)(st:List AObj)(hl:text.length<1000000):qp E 89 [Sv text] st λr st'=>r=.tu [Iv (wv text).1,Sv (wv text).2]∧st'=st:=by
 refine ze [.s text] (ju (qr _) (qr _)) Tryz.func89 rfl rfl (λ_=>rfl) rfl λS0=>?_;by_cases h9:text.length<9
 .have ht:wv text=(0,text):=qsb λn r hg e=>by
   have:=zaz n;rw[e]at h9;simp[qaa,genL]at h9;omega
  rw[ht];apply qd [];repeat' (first|apply Qa|(intro h;try exact cDd)|exact cSd|apply qb []|refine exr ?_|refine qe ?_)
 .have hp6:text.take 6=[35,37,103,101,110,32]↔genL<+:text:=by
   rw[List.prefix_iff_eq_take];exact eq_comm
  by_cases hp:genL<+:text
  .have pb:=hp6.2 hp
   have hd:(text.drop 6).length=text.length-6:=Sx
   apply qd [];repeat' (first|apply Qa|(intro h;try exact cDd)|exact absurd pb (by assumption)|exact cSd|apply qb []|refine exr ?_|refine qe ?_)
   refine zw (X:=Nat) (λk=>⟨[(0,.s text),(4,.i k)],[],0⟩) (λk=>6<=k∧k<=text.length∧10∉(text.drop 6).take (k-6)) (λk=>text.length-k) 6 ⟨Om,Om,Sx⟩ ?_ ?_
   .skip
    repeat' (first|apply Qa|(intro h;try exact cDd)|exact cSd|apply qb []|refine exr ?_|refine qe ?_)
   rintro k ⟨hk6,hk,gp⟩
   have hgd:(text.drop 6).getD (k-6) 0=text.getD k 0:=by
    simp only[List.getD_eq_getElem?_getD,List.getElem?_drop];rw[show 6+(k-6)=k by omega]
   by_cases rx:k<text.length∧text.getD k 0≠10
   .obtain⟨bn,s8⟩:=rx
    have gm:((text.getD k 0).toNat:Int)≠10:=λe=>s8 ((qcd _).1 e)
    have hno2:10∉(text.drop 6).take (k+1-6):=by
     rw[show k+1-6=(k-6)+1 by omega];refine qd1 Om gp ?_;rw[hgd];exact s8
    apply qd [];repeat' (first|apply Qa|(intro h;try exact cDd)|(refine Qb (k+1) ⟨⟨Om,Om,hno2⟩,Om,?_⟩)|exact cSd|apply qb []|refine exr ?_|refine qe ?_)
   .have hu:upto 10 (text.drop 6)=(text.drop 6).take (k-6):=by
     refine zn2 gp ?_ Om;by_cases bn:k<text.length
     .rw[hgd]
      exact .inr (Classical.byContradiction λh=>rx ⟨bn,h⟩)
     .exact .inl Om
    have hul:((text.drop 6).take (k-6)).length=k-6:=So
    have r9:(text.take k).drop 6=(text.drop 6).take (k-6):=by rw[List.drop_take]
    have i7:wv text=match numZ ((text.drop 6).take (k-6))with
     |some n=>if x9 n∧[10,10]<+:text.drop k then(n,text.drop (k+2))else(0,text)
     |none=>(0,text):=by
     unfold wv;rw[if_pos hp,hu,hul,show 6+(k-6)=k by omega,show 8+(k-6)=k+2 by omega]
     try rfl
    rw[i7];have rl:((text.drop 6).take (k-6)).length<1000000:=Om
    by_cases bn:k<text.length
    .have s8:text.getD k 0=10:=Classical.byContradiction λh=>rx ⟨bn,h⟩
     have gm:((text.getD k 0).toNat:Int)=10:=(qcd _).2 s8
     cases hz:numZ ((text.drop 6).take (k-6))with
     |none=>
      rw[<-r9]at hz;have hnN:=λst=>qh3 _ st (by rw[r9];omega) hz;apply qd []
      repeat' (first|apply Qa|(intro h;try exact cDd)|exact⟨Tryz.call132⟩|refine cpe hnN ?_|exact cSd|apply qb []|refine exr ?_|refine qe ?_)
     |some n=>
      rw[<-r9]at hz;have hnS:=λst=>qe2 _ n st (by rw[r9];omega) hz;simp only;by_cases hg:x9 n
      .have hg1:decide (x9 n)=true:=decide_eq_true hg
       have rx:=λst=>qje n st;simp only[hg1]at rx;by_cases hk4:text.length<=k+1
       .have hnp:¬ [10,10]<+:text.drop k:=λ⟨q,hq⟩=>by
         have:=congrArg Qp hq;simp at this;omega
        rw[if_neg (λh=>hnp h.2)];apply qd [];repeat' (first|apply Qa|(intro h;try exact cDd)|exact⟨Tryz.call132⟩|refine cpe hnS ?_|exact⟨Tryz.call133⟩|refine cpe rx ?_|exact cSd|apply qb []|refine exr ?_|refine qe ?_)
       .have e2:text.drop k=text.getD k 0::text.getD (k+1) 0::text.drop (k+2):=by
         rw[Qg bn,Qg (show k+1<text.length by omega)];simp[Zw,bn,show k+1<text.length by omega]
        by_cases hk5:text.getD (k+1) 0=10
        .have hk6':((text.getD (k+1) 0).toNat:Int)=10:=(qcd _).2 hk5
         have hk7:¬((text.getD (k+1) 0).toNat:Int)≠10:=λh=>h hk6';rw[if_pos ⟨hg,by rw[e2,s8,hk5];exact⟨_,rfl⟩⟩];apply qd [];repeat' (first|apply Qa|(intro h;try exact cDd)|exact⟨Tryz.call132⟩|refine cpe hnS ?_|exact⟨Tryz.call133⟩|refine cpe rx ?_|exact cSd|apply qb []|refine exr ?_|refine qe ?_)
         all_goals exact absurd hk6' (by assumption)
        .have hk6':¬((text.getD (k+1) 0).toNat:Int)=10:=λe=>hk5 ((qcd _).1 e)
         rw[if_neg (λh=>by
          obtain⟨q,hq⟩:=h.2;rw[e2]at hq
          exact hk5 (Qz (Qz hq).2).1.symm)]
         apply qd [];repeat' (first|apply Qa|(intro h;try exact cDd)|exact⟨Tryz.call132⟩|refine cpe hnS ?_|exact⟨Tryz.call133⟩|refine cpe rx ?_|exact cSd|apply qb []|refine exr ?_|refine qe ?_)
         all_goals exact absurd hk6' (by assumption)
      .have hg1:decide (x9 n)=false:=decide_eq_false hg
       have rx:=λst=>qje n st;simp only[hg1]at rx;rw[if_neg (λh=>hg h.1)];apply qd [];repeat' (first|apply Qa|(intro h;try exact cDd)|exact⟨Tryz.call132⟩|refine cpe hnS ?_|exact⟨Tryz.call133⟩|refine cpe rx ?_|exact cSd|apply qb []|refine exr ?_|refine qe ?_)
    .have hke:k=text.length:=by omega
     have hnp:¬ [10,10]<+:text.drop k:=λ⟨q,hq⟩=>by
      have:=congrArg Qp hq;simp at this;omega
     cases hz:numZ ((text.drop 6).take (k-6))with
     |none=>
      rw[<-r9]at hz;have hnN:=λst=>qh3 _ st (by rw[r9];omega) hz;apply qd []
      repeat' (first|apply Qa|(intro h;try exact cDd)|exact⟨Tryz.call132⟩|refine cpe hnN ?_|exact cSd|apply qb []|refine exr ?_|refine qe ?_)
     |some n=>
      rw[<-r9]at hz;have hnS:=λst=>qe2 _ n st (by rw[r9];omega) hz;simp only;rw[if_neg (λh=>hnp h.2)];by_cases hg:x9 n
      .have hg1:decide (x9 n)=true:=decide_eq_true hg
       have rx:=λst=>qje n st;simp only[hg1]at rx;apply qd [];repeat' (first|apply Qa|(intro h;try exact cDd)|exact⟨Tryz.call132⟩|refine cpe hnS ?_|exact⟨Tryz.call133⟩|refine cpe rx ?_|exact cSd|apply qb []|refine exr ?_|refine qe ?_)
      .have hg1:decide (x9 n)=false:=decide_eq_false hg
       have rx:=λst=>qje n st;simp only[hg1]at rx;apply qd [];repeat' (first|apply Qa|(intro h;try exact cDd)|exact⟨Tryz.call132⟩|refine cpe hnS ?_|exact⟨Tryz.call133⟩|refine cpe rx ?_|exact cSd|apply qb []|refine exr ?_|refine qe ?_)
  .have pb:text.take 6≠[35,37,103,101,110,32]:=λh=>hp (hp6.1 h)
   have ht:wv text=(0,text):=by unfold wv;rw[if_neg hp]
   rw[ht];apply qd [];repeat' (first|apply Qa|(intro h;try exact cDd)|exact absurd pb (by assumption)|exact cSd|apply qb []|refine exr ?_|refine qe ?_)
@[reducible] def qhx (L : List LnV) : AV := .sl 1 (L.map fun x => Iv (qx x.text)) none
def qjc(L:List LnV):Nat->Bool
 |0=>false
 |j+1=>match L[j]?with
  |some x=>decide (qx x.text=4∨qx x.text=3)
  |none=>false
theorem qml{L:List LnV}{i:Nat}{x:LnV}(h:L[i]?=some x):(L.map λx=>Iv (qx x.text))[i]?=some (Iv (qx x.text)):=by simp[h]
theorem qk1{L:List LnV}{i:Nat}{x:LnV}(h:L[i]?=some x):(L.map lnA)[i]?=some (lnA x):=by simp[h]
theorem q3f(L:List LnV)(i:Nat)(st:List AObj)(hi:i<=L.length)(hL:L.length<1000000):qp E 188 [qhx L,Iv i] st λr st'=>r=Bv (qjc L i)∧st'=st:=by
 refine ze [.a (qhx L),.i i] (qr _) Tryz.func188 rfl rfl (λ_=>rfl) rfl λS0=>?_
 cases i with
 |zero=>
  apply qd []
  repeat' (first|apply Qa|(intro h;try exact cDd)|exact cSd|apply qb []|refine exr ?_|refine qe ?_)
 |succ j=>
  obtain⟨x,hx⟩:∃x,L[j]?=some x:=⟨_,Qe Om⟩;have d8:=qml hx;have hp:qjc L (j+1)=decide (qx x.text=4∨qx x.text=3):=by simp only[qjc,hx]
  rw[hp];apply qd [];repeat' (first|apply Qa|(intro h;try exact cDd)|(refine Qb (j) ⟨Om,_,d8,?_⟩)|exact cSd|apply qb []|refine exr ?_|refine qe ?_)
  all_goals (simp[*];done)
theorem q1e{L:List LnV}{k:Nat}{x:LnV}(h:L[k]?=some x):(L.drop k).map wq=(x.text,x.ended)::(L.drop (k+1)).map wq:=by
 obtain⟨d9,he⟩:=Qy.1 h;rw[Qg d9,he];rfl
def qjh(L:List LnV)(i:Nat)(x:LnV):List qa:=x.text::vk ((L.drop (i+1)).map wq)
theorem q6c:∀(r:List (qa×Bool)),(vk r).length<=r.length
 | []=>by simp[vk]
 |(t,e)::r=>by
  have:=q6c r;rw[vk];split <;>simp <;>omega
theorem q6d:∀{r:List (qa×Bool)}{n:Nat},(∀p∈r,p.1.length<=n)->∀s∈vk r,s.length<=n
 | [],_,_,s,hs=>by simp[vk]at hs
 |(t,e)::r,n,h,s,hs=>by
  rw[vk]at hs;split at hs
  .rcases Qh.1 hs with rfl|hs
   .exact h (s,e) Sx
   .exact q6d (λp hp=>h p (by simp[hp])) s hs
  .simp at hs
structure LnsB (L:List LnV):Prop where
 len:L.length<100000
 val:∀x∈L,x.text.length<100000
theorem LnsB.said{L:List LnV}(h:LnsB L){i:Nat}{x:LnV}(hx:L[i]?=some x):LsB (qjh L i x):=by
 have h1:=q6c ((L.drop (i+1)).map wq);have h2:=h.len;have h3:=h.val x (Qm hx);refine⟨?_,λs hs=>?_⟩
 .unfold qjh
  simp at h1⊢;omega
 .rcases Qh.1 hs with rfl|hs
  .omega
  .have:=q6d (n:=100000) (λp hp=>by
    obtain⟨y,hy,rfl⟩:=Ze.1 hp;have:=h.val y (Zl hy);simp only[wq]
    omega) s hs
   omega
theorem qt9(L:List LnV)(i:Nat)(x:LnV)(st:List AObj)(hL:LnsB L)(hx:L[i]?=some x):qp E 137 [lnsA L,qhx L,Iv i] st λr st'=>r=Ss (qjh L i x)∧st'=st:=by
 refine ze [.a (lnsA L),.a (qhx L),.i i] (qnz _) Tryz.func137 rfl rfl (λ_=>rfl) rfl λS0=>?_;have hLl:=hL.len;have fc:=lt_of_getElem? hx;have d8:=qk1 hx;have o0:(L.map lnA).length=L.length:=Sx
 apply qd [14];repeat' (first|apply Qa|(intro h;try exact cDd)|(refine Qb (i) ⟨Om,_,d8,?_⟩)|exact cSd|apply qb [14]|refine exr ?_|refine qe ?_)
 refine zw (X:=Nat×List qa) (λ(k,acc)=>⟨[(0,.a (lnsA L)),(1,.a (qhx L)),(7,.tp 0),(8,.i k)],[(0,some (.tip 1 9 (acc.map λx=>Sv x)))],1⟩) (λ(k,acc)=>i+1<=k∧k<=L.length∧acc++vk ((L.drop k).map wq)=qjh L i x∧acc.length<=k) (λ(k,_)=>L.length-k) (i+1,[x.text]) ⟨Om,Om,rfl,Sx⟩ ?_ ?_
 .skip
  repeat' (first|apply Qa|(intro h;try exact cDd)|exact cSd|apply qb []|refine exr ?_|refine qe ?_)
  all_goals (simp;done)
 .rintro⟨k,acc⟩ ⟨bn,s8,dr,hal⟩
  have hmc:(acc.map λx=>Sv x).length=acc.length:=Sx
  by_cases hk:k<L.length
  .obtain⟨y,hy⟩:∃y,L[k]?=some y:=⟨_,Qe hk⟩
   have hgy:=qk1 hy;have rz:=qml hy;rw[q1e hy]at dr;by_cases h3:qx y.text=3
   .rw[qja h3]at dr
    apply qd [];repeat' (first|apply Qa|(intro h;try exact cDd)|(refine Qb (k) ⟨Om,_,hgy,?_⟩)|(refine Qb (k) ⟨Om,_,rz,?_⟩)|(refine Qb (k+1,acc++[y.text]) ⟨⟨Om,Om,by simpa using dr,So⟩,by simp only;omega,?_⟩)|exact cSd|apply qb []|refine exr ?_|refine qe ?_)
    all_goals (simp;done)
   .rw[qpc h3,Qj]at dr
    rw[<-dr];apply qd [];repeat' (first|apply Qa|(intro h;try exact cDd)|(refine Qb (k) ⟨Om,_,rz,?_⟩)|exact cSd|apply qb []|refine exr ?_|refine qe ?_)
  .rw[Qv Om,List.map_nil,vk,Qj]at dr
   rw[<-dr];apply qd [];repeat' (first|apply Qa|(intro h;try exact cDd)|exact cSd|apply qb []|refine exr ?_|refine qe ?_)
theorem q7r(L:List LnV)(i:Nat)(x:LnV)(n:Nat)(rec:Int)(st:List AObj)(hL:LnsB L)(hx:L[i]?=some x):qp E 135 [lnsA L,qhx L,Iv i,Iv n,Iv rec] st λr st'=>r=Iv (ko (qjc L i) x.text x.ended ((L.drop (i+1)).map wq) n rec)∧st'=st:=by
 refine ze [.a (lnsA L),.a (qhx L),.i i,.i n,.i rec] (qr _) Tryz.func135 rfl rfl (λ_=>rfl) rfl λS0=>?_;have hLl:=hL.len;have fc:=lt_of_getElem? hx;have hgy:=qk1 hx;have rz:=qml hx;have s6:=λst=>q3f L i st Om Om;have hsa:=λst=>qt9 L i x st hL hx;have bf:=λst=>qlq (qjh L i x) st (hL.said hx);unfold qcv at bf;unfold ko;have hsd:x.text::vk ((L.drop (i+1)).map wq)=qjh L i x:=rfl;rw[hsd];generalize qjc L i=pv at *;generalize qjh L i x=sl at *;generalize(zu sl).2=u at *;obtain⟨xn,xa,xt,xe⟩:=x;dsimp only at *;apply qd [];repeat' (first|apply Qa|(intro h;try exact cDd)|(refine Qb (i) ⟨Om,_,rz,?_⟩)|(refine Qb (i) ⟨Om,_,hgy,?_⟩)|exact⟨Tryz.call188⟩|refine cpe s6 ?_|exact⟨Tryz.call137⟩|refine cpe hsa ?_|exact⟨Tryz.call136⟩|refine cpe bf ?_|exact cSd|apply qb []|refine exr ?_|refine qe ?_)
 all_goals clear s6 hsa bf hgy rz
 all_goals (simp_all <;>omega)
end Go.Proofs.YtlekheifonaipaaGreatDoor
namespace Go.Pl
open Go Go.Proofs Go.Proofs.YtlekheifonaipaaGreatDoor
theorem qx9(l:qa):(zi l).1=1∨(zi l).1=2∨(zi l).1=3:=by
 unfold zi;split
 .split
  .split
   .unfold yq
    split <;>simp
   .split
    .unfold xo
     split
     .simp
     .split <;>simp
    .simp
  .simp
 .split <;>simp
theorem q2b{l:qa}(h1:(zi l).1=1):∃k:Nat,(zi l).2.2=(k:Int)∧0<k∧k<=l.length:=by
 obtain⟨_,m,hm,hn⟩:=qya (show zi l=(1,(zi l).2.1,(zi l).2.2)by rw[<-h1]);refine⟨_,hn,?_,?_⟩
 .rw[qn1]
  simp[recL,wt,zb]
 .have:=congrArg Qp hm
  rw[Qu]at this;omega
theorem qqh{l:qa}:(zi l).2.1.length<=l.length:=by
 have hp:=vm 10 l;unfold zi;split
 .split
  .split
   .simp
   .split
    .unfold xo
     split
     .simp
     .split
      .simp;omega
      .simp
    .simp
  .simp
 .split <;>simp
theorem qqv(l:qa):jf l.length l<=l.length:=(qqw _ _ _ (Qd _) (Qd _)).2
theorem qyd{f:Nat}{l:qa}{a:Int}{bs:List (List qm)}{es:List Int}(h:(zi l).1=2):recsF (f+1) l a bs es=(false,bs,es,l):=by
 rw[recsF,if_pos h]
theorem q2d{f:Nat}{l:qa}{a:Int}{bs:List (List qm)}{es:List Int}(h:(zi l).1=3):recsF (f+1) l a bs es=(true,bs,es,l):=by
 rw[recsF,if_neg (by rw[h];decide),if_neg (by rw[h];decide)]
theorem q2c{f:Nat}{l:qa}{a:Int}{bs:List (List qm)}{es:List Int}(h:(zi l).1=1)(hd:decF (zi l).2.1=none):recsF (f+1) l a bs es=(true,bs,es,l):=by
 rw[recsF,if_neg (by rw[h];decide),if_pos h,hd]
theorem qyc{f k:Nat}{l:qa}{a:Int}{bs:List (List qm)}{es:List Int}{b:List qm}(h:(zi l).1=1)(hd:decF (zi l).2.1=some b)(hk:(zi l).2.2=(k:Int)):recsF (f+1) l a bs es=recsF f (l.drop k) (a+k) (bs++[b]) (es++[a+k]):=by
 rw[recsF,if_neg (by rw[h];decide),if_pos h,hd,hk];rfl
end Go.Pl
namespace Go.Proofs.YtlekheifonaipaaGreatDoor
open Go Go.Av Go.RowKit Go.Proofs Go.Pl
@[reducible] def yh (es : List Int) : AV := .sl 1 (es.map fun x => Iv x) none
@[reducible] def qb7 (bs : List (List qm)) : AV := .sl 1 (bs.map zh) none
@[reducible] def qas (b : jy) : AV := .ag [Iv b.gen, Sv b.base, qb7 b.batches, yh b.ends, Sv b.tail]
theorem zoc(l:qa)(b:Bool)(st:List AObj)(hl:l.length<4294967281)(h:begF l=b):qp E 108 [Sv l] st λr st'=>r=Bv b∧st'=st:=by
 subst h;exact ziq l st hl
theorem zio(text:qa)(st:List AObj)(hl:text.length<1000000):qp E 64 [Sv text] st λr st'=>r=Iv ((jf text.length text:Nat):Int)∧st'=st:=by
 refine ze [.s text] (qr _) Tryz.func64 rfl rfl (λ_=>rfl) rfl λS0=>?_;apply qd [];repeat' (first|apply Qa|(intro h;try exact cDd)|exact⟨Tryz.call107⟩|(refine Qb _ ⟨qpw _,?_⟩)|exact cSd|apply qb []|refine exr ?_|refine qe ?_)
 refine qil (X:=Int) text 1 2 [0,1] (λr=>⟨[(0,.s text),(2,.bx 0 0),(5,.fn (.func 154) [] [.bx 1 0])],[(0,some (.cells 3 [.i r])),(1,some (.cells 9 [.s text]))],2⟩) _
  (λk rest r=>r=0∧rest.length<=text.length∧jf text.length text=jf text.length rest) (λc r=>c=.ret∧r=((jf text.length text:Nat):Int)) 0 ⟨rfl,Om,rfl⟩ ?_ id Om (λ_=>rfl) rfl (λ_=>rfl) (λ_=>rfl) rfl ?_ ?_ ?_
 .skip
  repeat' (first|apply Qa|(intro h;try exact cDd)|exact cSd|apply qb []|refine exr ?_|refine qe ?_)
 .rintro k rest r ⟨rfl,dg,hbeg⟩ b9 d7
  have hu:=vl 10 rest;have dx:=vm 10 rest;have nj:=λst=>zoc (upto 10 rest) _ st Om rfl;unfold qo6;by_cases hb:begF (upto 10 rest)=true
  .rw[hb]at nj
   have hv:((text.length:Int)-rest.length)=((jf text.length text:Nat):Int):=by
    rw[hbeg,qki b9 hb];omega
   refine RA.mk λS F ρ rd=>?_;apply qd [];repeat' (first|apply Qa|(intro h;try exact cDd)|(refine RB.mk λS rd=>?_;apply qd [])|exact⟨Tryz.call108⟩|refine cpe nj ?_|(refine Qb _ ⟨⟨rfl,hv⟩,?_⟩)|exact cSd|apply qb []|refine exr ?_|refine qe ?_)
  .have gb:begF (upto 10 rest)=false:=by simpa using hb
   rw[gb]at nj;refine RA.mk λS F ρ rd=>?_;apply qd [];repeat' (first|apply Qa|(intro h;try exact cDd)|(refine RB.mk λS rd=>?_;apply qd [])|exact⟨Tryz.call108⟩|refine cpe nj ?_|(refine Qb 0 ⟨⟨rfl,Om,by rw[hbeg,ql4 b9 (by rw[gb];decide)]⟩,?_⟩)|exact cSd|apply qb []|refine exr ?_|refine qe ?_)
 .rintro k r ⟨rfl,dg,hbeg⟩
  rw[qfb]at hbeg;rw[hbeg];repeat' (first|apply Qa|(intro h;try exact cDd)|exact cSd|apply qb []|refine exr ?_|refine qe ?_)
 .rintro c r ⟨rfl,rfl⟩
  repeat' (first|apply Qa|(intro h;try exact cDd)|exact cSd|apply qb []|refine exr ?_|refine qe ?_)
theorem yc{a b c:AV}(h1:Pure a)(h2:Pure b)(h3:Pure c):Pure (.tu [a,b,c]):=qei λz hz=>by
 simp only[Qh,Qt,or_false]at hz;rcases hz with rfl|rfl|rfl
 .exact h1
 .exact h2
 .exact h3
def qcu(text:qa):AV:=if 60000<text.length then .tu [vu [],Iv (-9),Iv 1]else match(jl text).1 with
 |some e=>.tu [vu [],Iv e.1,Iv e.2]
 |none=>.tu [vu (jl text).2,Iv (-9),Iv 0]
theorem qzz(text:qa):Pure (qcu text):=by
 unfold qcu;split
 .exact yc (qc7 _) (qr _) (qr _)
 .split
  .exact yc (qc7 _) (qr _) (qr _)
  .exact yc (qc7 _) (qr _) (qr _)
theorem zdp{L:List LnV}{k:Nat}{x:LnV}(h:L[k]?=some x):qjc L (k+1)=decide (qx x.text=4∨qx x.text=3):=by simp only[qjc,h]
set_option maxHeartbeats 2000000 in
theorem qr1(text:qa)(st:List AObj)(hl:text.length<1000000):qp E 92 [Sv text] st λr st'=>r=qcu text∧st'=st:=by
 refine ze [.s text] (qzz text) Tryz.func92 rfl rfl (λ_=>rfl) rfl λS0=>?_;by_cases bd:60000<text.length
 .have e:qcu text=.tu [vu [],Iv (-9),Iv 1]:=if_pos bd
  rw[e];apply qd [];repeat' (first|apply Qa|(intro h;try exact cDd)|exact cSd|apply qb []|refine exr ?_|refine qe ?_)
 have hRA:qcu text=match(jl text).1 with
  |some e=>.tu [vu [],Iv e.1,Iv e.2]
  |none=>.tu [vu (jl text).2,Iv (-9),Iv 0]:=if_neg bd
 rw[hRA];clear hRA;obtain⟨L,hL⟩:∃L,L=lns text:=⟨_,rfl⟩;have hLl:L.length<=text.length:=by rw[hL];exact qdt _ text 0 0 (Qd _)
 have hLB:LnsB L:=⟨Om,λx hx=>by have:=qxv _ text 0 0 (Qd _) x (by rw[hL]at hx;exact hx);omega⟩
 have a8:refL 0 ((L.drop 0).map wq) (qjc L 0) ⟨2,[],[]⟩ 0 []=jl text:=by
  rw[Zu,hL,qrm];exact qej text
 have o0:(L.map lnA).length=L.length:=Sx
 have hspl:∀st,qp E 90 [Sv text] st λr st'=>r=lnsA L∧st'=st:=λst=>by rw[hL];exact qku text st Om
 clear hL;generalize jl text=PF at a8;apply qd [];repeat' (first|apply Qa|(intro h;try exact cDd)|exact⟨Tryz.call90⟩|refine cpe hspl ?_|exact cSd|apply qb []|refine exr ?_|refine qe ?_)
 refine zw (X:=Nat) (λk=>⟨[(5,.a (lnsA L)),(6,.tp 0),(7,.i k)],[(0,some (.tip 1 3 ((L.take k).map λx=>Iv (qx x.text))))],1⟩) (λk=>k<=L.length) (λk=>L.length-k) 0 Om ?_ ?_
 .skip
  repeat' (first|apply Qa|(intro h;try exact cDd)|exact cSd|apply qb []|refine exr ?_|refine qe ?_)
 .intro k hk
  by_cases hkl:k<L.length
  .obtain⟨x,hx⟩:∃x,L[k]?=some x:=⟨_,Qe hkl⟩
   have lg:=qk1 hx;have hxl:=hLB.val x (Qm hx);have rj:=λst=>qjx x.text st Om;apply qd [];repeat' (first|apply Qa|(intro h;try exact cDd)|(refine Qb _ ⟨rfl,_,lg,?_⟩)|exact⟨Tryz.call134⟩|refine cpe rj ?_|(refine Qb (k+1) ⟨Om,Om,?_⟩)|exact cSd|apply qb []|refine exr ?_|refine qe ?_)
   rw[List.take_add_one,hx];simp
  .have e:L.take k=L:=Zj Om
   apply qd [];repeat' (first|apply Qa|(intro h;try exact cDd)|exact cSd|apply qb []|refine exr ?_|refine qe ?_)
   refine zw (X:=Nat×zg×Int×List zg) (λ(k,⟨nk,nr,nf⟩,rec,out)=>⟨[(5,.a (lnsA L)),(6,.a (qhx L)),(8,.tp 0),(9,.bx 1 0),(10,.i rec),(11,.i k)],
     [(0,some (.tip 3 123 (out.map kq))),(1,some (.cells 123 [.i nk,.s nr,.tp 2])),(2,some (.tip 2 40 (nf.map fldA)))],3⟩)
    (λ(k,now,rec,out)=>k<=L.length∧refL k ((L.drop k).map wq) (qjc L k) now rec out=PF∧0<=rec∧rec<=k∧out.length<=2*k∧now.fields.length<=k∧now.raw.length<=200000*k) (λx=>L.length-x.1) (0,⟨2,[],[]⟩,0,[])
    ⟨Om,a8,Om,Om,Sx,Sx,Sx⟩ ?_ ?_
   .skip
    repeat' (first|apply Qa|(intro h;try exact cDd)|(refine qe ?_;rw[e])|exact cSd|apply qb []|refine exr ?_|refine qe ?_)
   .rintro⟨j,⟨nk,nr,nf⟩,rec,out⟩ ⟨hj,hR,hr0,hr1,mw,o8,dg⟩
    simp only at o8 dg;by_cases hjl:j<L.length
    .obtain⟨x,hx⟩:∃x,L[j]?=some x:=⟨_,Qe hjl⟩
     have lg:=qk1 hx;have hkx:=qml hx;have hxl:=hLB.val x (Qm hx);have hwr:∀st,qp E 135 [lnsA L,qhx L,Iv j,Iv ((nf.map fldA).length:Nat),Iv rec] st λr st'=>r=Iv (ko (qjc L j) x.text x.ended ((L.drop (j+1)).map wq) nf.length rec)∧st'=st:=λst=>by rw[Zi];exact q7r L j x nf.length rec st hLB hx
     have hsa:=λst=>qt9 L j x st hLB hx;have bf:=λst=>qlq (qjh L j x) st (hLB.said hx);unfold qcv at bf;have hpv:=zdp hx;have hsd:x.text::vk ((L.drop (j+1)).map wq)=qjh L j x:=rfl;rw[q1e hx,refL,hsd]at hR;simp only at hR;by_cases h1:qx x.text=1
     .apply qd []
      repeat' (first|apply Qa|(intro h;try exact cDd)|(refine Qb _ ⟨rfl,_,lg,?_⟩)|(refine Qb _ ⟨rfl,_,hkx,?_⟩)|exact⟨Tryz.call135⟩|refine cpe hwr ?_|exact⟨Tryz.call137⟩|refine cpe hsa ?_|exact⟨Tryz.call136⟩|refine cpe bf ?_|(rw[if_pos (by assumption)]at hR;rw[<-hR];exact qs0 _)|(refine Qb (j+1,⟨2,[],[]⟩,rec,outR ⟨nk,nr,nf⟩ out++[⟨1,x.text++[10],[]⟩]) ⟨?_,by simp only;omega,?_⟩)|exact cSd|apply qb []|refine exr ?_|refine qe ?_)
      all_goals first|grind [outR]|(simp[outR,kq, *]at hR⊢;done)|(simp[outR,kq, *]at hR⊢;omega)
     .by_cases h4:qx x.text=4
      .apply qd []
       repeat' (first|apply Qa|(intro h;try exact cDd)|(refine Qb _ ⟨rfl,_,lg,?_⟩)|(refine Qb _ ⟨rfl,_,hkx,?_⟩)|exact⟨Tryz.call135⟩|refine cpe hwr ?_|exact⟨Tryz.call137⟩|refine cpe hsa ?_|exact⟨Tryz.call136⟩|refine cpe bf ?_|(rw[if_pos (by assumption)]at hR;rw[<-hR];exact qs0 _)|(refine Qb (j+1,⟨3,nr++x.text++[10],nf++[(zu (qjh L j x)).1]⟩,if nk=2 then rec+1 else rec,out) ⟨?_,by simp only;omega,?_⟩)|exact cSd|apply qb []|refine exr ?_|refine qe ?_)
       all_goals first|grind [outR]|(simp[outR,kq, *]at hR⊢;done)|(simp[outR,kq, *]at hR⊢;omega)
      .apply qd []
       repeat' (first|apply Qa|(intro h;try exact cDd)|(refine Qb _ ⟨rfl,_,lg,?_⟩)|(refine Qb _ ⟨rfl,_,hkx,?_⟩)|exact⟨Tryz.call135⟩|refine cpe hwr ?_|exact⟨Tryz.call137⟩|refine cpe hsa ?_|exact⟨Tryz.call136⟩|refine cpe bf ?_|(rw[if_pos (by assumption)]at hR;rw[<-hR];exact qs0 _)|(refine Qb (j+1,⟨nk,nr++x.text++[10],nf⟩,rec,out) ⟨?_,by simp only;omega,?_⟩)|exact cSd|apply qb []|refine exr ?_|refine qe ?_)
       all_goals first|grind [outR]|(simp[outR,kq, *]at hR⊢;done)|(simp[outR,kq, *]at hR⊢;omega)
    .have e:(L.drop j).map wq=[]:=by rw[Qv Om];rfl
     rw[e,refL]at hR;rw[<-hR];apply qd [];repeat' (first|apply Qa|(intro h;try exact cDd)|exact cSd|apply qb []|refine exr ?_|refine qe ?_)
     all_goals first|grind [outR]|(simp[outR,kq, *]at hR⊢;done)|(simp[outR,kq, *]at hR⊢;omega)
theorem q5b(b:List qm):qis (zh b):=λy hy=>by
 simp only[AV.cells,Qh,Qt,or_false]at hy;subst hy;exact qa4 _
theorem q28(bs:List (List qm)):Pure (qb7 bs):=qbi λx hx=>by
 obtain⟨b,_,rfl⟩:=Ze.1 hx;exact q5b b
theorem qcr(es:List Int):Pure (yh es):=qbi λx hx=>by
 obtain⟨b,_,rfl⟩:=Ze.1 hx;intro y hy;simp only[AV.cells,Qh,Qt,or_false]at hy;subst hy;exact qr _
theorem qfc(b:jy):Pure (qas b):=qn0 λx hx=>by
 simp only[Qh,Qt,or_false]at hx;rcases hx with rfl|rfl|rfl|rfl|rfl
 .exact qr _
 .exact qr _
 .exact q28 _
 .exact qcr _
 .exact qr _
def qqy(x:ErrV×jy):AV:=.tu [qas x.2,errA x.1]
theorem q8v(x:ErrV×jy):Pure (qqy x):=ju (qfc _) (ki _)
theorem q9w(text:qa)(st:List AObj)(hl:60000<text.length)(h2:text.length<1000000):qp E 65 [Sv text] st λr st'=>r=.tu [vu [],errA (.num 1)]∧st'=st:=by
 refine ze [.s text] (ju (qc7 _) (ki _)) Tryz.func65 rfl rfl (λ_=>rfl) rfl λS0=>?_;apply qd [];repeat' (first|apply Qa|(intro h;try exact cDd)|exact cSd|apply qb []|refine exr ?_|refine qe ?_)
def itsE(text:qa):List zg:=if 60000<text.length then []else(jl text).2
theorem q2o(text:qa)(st:List AObj)(hl:text.length<1000000):qp E 65 [Sv text] st λr st'=>r=.tu [vu (itsE text),errA (jx text)]∧st'=st:=by
 unfold jx itsE;by_cases hb:60000<text.length
 .rw[if_pos hb,if_pos hb]
  exact q9w text st hb hl
 .rw[if_neg hb,if_neg hb]
  have:=qvo text st Om;unfold qe1 at this;rcases hp:(jl text).1 with _|⟨x,y⟩
  .rw[hp]at this
   exact this
  .rw[hp]at this
   exact this
theorem q4x(gen:Int)(base text:qa)(a:Nat)(hl:text.length<1000000)(ha:a<=text.length)(r:SV)(bq:List (Nat×Option SR))(nx1:Nat)(R:Bool×List (List qm)×List Int×qa)(hR:Go.Pl.recsF (text.length+1) (text.drop a) a [] []=R)
  (hok:R.1=false->r=.a (.v .nilIface)∧bq=[(0,some (.cells 53 [.i gen,.s base,.tp 1,.tp 2,.s R.2.2.2])),(1,some (.tip 1 23 (R.2.1.map zh))),(2,some (.tip 1 3 (R.2.2.1.map λx=>Iv x)))]∧nx1=3)
  (dt:R.1=true->r=.a (errA (.at' R.2.1.length 10))∧bq=[]∧nx1=1):vb E 66 [.bx 0 0,.s text,.i a] 1 (hpF [(0,some (.cells 53 [.i gen,.s base,.a zm,.a zm,.s []]))]) ⟨r,kr [(0,some (.cells 53 [.i gen,.s base,.a zm,.a zm,.s []]))],bq++vw [(0,some (.cells 53 [.i gen,.s base,.a zm,.a zm,.s []]))],nx1⟩:=by
 refine xl [.bx 0 0,.s text,.i a] [(0,some (.cells 53 [.i gen,.s base,.a zm,.a zm,.s []]))] 1 r bq nx1 Tryz.func66 rfl rfl rfl ?_ λS F ρ=>?_
 .cases h:R.1 with
  |false=>obtain⟨rfl,rfl,rfl⟩:=hok h;rfl
  |true=>obtain⟨rfl,rfl,rfl⟩:=dt h;rfl
 apply qd [];repeat' (first|apply Qa|(intro h;try exact cDd)|exact cSd|apply qb []|refine exr ?_|refine qe ?_)
 refine zw (X:=Nat×Nat×List (List qm)×List Int) (λ(k,f,bs,es)=>⟨[(0,.bx 0 0),(1,.s text),(2,.i k)],[(0,some (.cells 53 [.i gen,.s base,.tp 1,.tp 2,.s []])),(1,some (.tip 1 23 (bs.map zh))),(2,some (.tip 1 3 (es.map λx=>Iv x)))],3⟩)
  (λ(k,f,bs,es)=>k<=text.length∧text.length-k<f∧Go.Pl.recsF f (text.drop k) k bs es=R∧bs.length<=k∧es.length<=k) (λx=>text.length-x.1) (a,text.length+1,[],[]) ⟨ha,Om,hR,Sx,Sx⟩ ?_ ?_
 .skip
  repeat' (first|apply Qa|(intro h;try exact cDd)|exact cSd|apply qb []|refine exr ?_|refine qe ?_)
 .rintro⟨k,f,bs,es⟩ ⟨hk,hf,hR,cz,nq⟩
  obtain⟨f,rfl⟩:∃f',f=f'+1:=⟨f-1,Om⟩;have i8:=λst=>zo7 (text.drop k) st So;have pn:(text.drop k).length=text.length-k:=Sx
  have hbd:=qqh (l:=text.drop k);have mt:=λst=>zi2 (zi (text.drop k)).2.1 st Om;rcases qx9 (text.drop k)with h1|h2|h3
  .rw[h1]at i8
   obtain⟨n',nw,hn0',rl⟩:=q2b h1
   cases gj:decF (zi (text.drop k)).2.1 with
   |none=>
    rw[q2c h1 gj]at hR;rw[gj]at mt;subst hR;obtain⟨rfl,rfl,rfl⟩:=dt rfl;apply qd [];repeat' (first|apply Qa|(intro h;try exact cDd)|exact⟨Tryz.call111⟩|refine cpe i8 ?_|exact⟨Tryz.call112⟩|refine cpe mt ?_|exact cSd|apply qb []|refine exr ?_|refine qe ?_)
    rw[Zi]
    rfl
   |some b=>
    rw[qyc h1 gj nw]at hR;rw[gj]at mt;rw[nw]at i8;apply qd [];repeat' (first|apply Qa|(intro h;try exact cDd)|exact⟨Tryz.call111⟩|refine cpe i8 ?_|exact⟨Tryz.call112⟩|refine cpe mt ?_|(refine Qb (k+n',f,bs++[b],es++[((k+n':Nat):Int)]) ⟨?_,by simp only;omega,?_⟩)|exact cSd|apply qb []|refine exr ?_|refine qe ?_)
    all_goals first|(rw[<-hR,Qk,Qc];done)|(simp;done)
  .rw[h2]at i8
   rw[qyd h2]at hR;subst hR;obtain⟨rfl,rfl,rfl⟩:=hok rfl
   cases gj:decF (zi (text.drop k)).2.1<;>rw[gj]at mt
   all_goals
    apply qd [];repeat' (first|apply Qa|(intro h;try exact cDd)|exact⟨Tryz.call111⟩|refine cpe i8 ?_|exact⟨Tryz.call112⟩|refine cpe mt ?_|exact cSd|apply qb []|refine exr ?_|refine qe ?_)
  .rw[h3]at i8
   rw[q2d h3]at hR;subst hR;obtain⟨rfl,rfl,rfl⟩:=dt rfl
   cases gj:decF (zi (text.drop k)).2.1<;>rw[gj]at mt
   all_goals
    apply qd [];repeat' (first|apply Qa|(intro h;try exact cDd)|exact⟨Tryz.call111⟩|refine cpe i8 ?_|exact⟨Tryz.call112⟩|refine cpe mt ?_|exact cSd|apply qb []|refine exr ?_|refine qe ?_)
   all_goals
    rw[Zi];rfl
theorem zab(text:qa)(st:List AObj)(hl:text.length<1000000):qp E 29 [Sv text] st λr st'=>r=qqy (zx text)∧st'=st:=by
 refine ze [.s text] (q8v _) Tryz.func29 rfl rfl (λ_=>rfl) rfl λS0=>?_;by_cases bd:120000<text.length
 .have e:zx text=(.num 1,qar):=if_pos bd
  rw[e];apply qd [];repeat' (first|apply Qa|(intro h;try exact cDd)|exact cSd|apply qb []|refine exr ?_|refine qe ?_)
 have r9:=qjk text
 have dg:(wv text).2.length<=text.length:=by
  conv=>rhs;rw[r9.1]
  simp
 have cz:=qqv (wv text).2;obtain⟨g,rest,i7⟩:∃g rest,wv text=(g,rest):=⟨_,_,rfl⟩
 have hF:zx text=match jx (rest.take (jf rest.length rest))with
   |.no=>if(Go.Pl.recsF (text.length+1) (rest.drop (jf rest.length rest)) (((text.length-rest.length+jf rest.length rest:Nat)):Int) [] []).1=true then(.at' (Go.Pl.recsF (text.length+1) (rest.drop (jf rest.length rest)) (((text.length-rest.length+jf rest.length rest:Nat)):Int) [] []).2.1.length 10,qar)
    else(.no,⟨g,rest.take (jf rest.length rest),(Go.Pl.recsF (text.length+1) (rest.drop (jf rest.length rest)) (((text.length-rest.length+jf rest.length rest:Nat)):Int) [] []).2.1,(Go.Pl.recsF (text.length+1) (rest.drop (jf rest.length rest)) (((text.length-rest.length+jf rest.length rest:Nat)):Int) [] []).2.2.1,(Go.Pl.recsF (text.length+1) (rest.drop (jf rest.length rest)) (((text.length-rest.length+jf rest.length rest:Nat)):Int) [] []).2.2.2⟩)
   |e=>(e,qar):=by
  unfold zx;rw[if_neg bd];unfold qd3 qhq atH qcx;rw[i7]
  try rfl
 have htk2:∀st,qp E 63 [Sv text] st λr st'=>r=.tu [Iv g,Sv rest]∧st'=st:=λst=>by
  have:=zmv text st hl;rw[i7]at this;exact this
 rw[i7]at dg cz r9;simp only at dg cz r9
 have hdr:rest.drop (jf rest.length rest)=text.drop (text.length-rest.length+jf rest.length rest):=by
  have h1:text.length=(wa g).length+rest.length:=by
   have:=congrArg Qp r9.1
   simpa using this
  conv=>rhs;rhs;rw[r9.1]
  rw[<-Qc,show text.length-rest.length=(wa g).length by omega,Qi]
 rw[hdr]at hF;clear hdr r9 i7;have nj:=λst=>zio rest st Om;generalize jf rest.length rest=a at hF cz nj;have lv:=λst=>q2o (rest.take a) st So;have hsub:((text.length:Int)-(rest.length:Int))+(a:Int)=((text.length-rest.length+a:Nat):Int):=Om
 rw[show(((text.length-rest.length+a:Nat)):Int)=(((text.length-rest.length+a:Nat)):Int) from rfl]at hF;obtain⟨R,hR⟩:∃R,Go.Pl.recsF (text.length+1) (text.drop (text.length-rest.length+a)) ((text.length-rest.length+a:Nat):Int) [] []=R:=⟨_,rfl⟩;rw[hR]at hF;have hok:=λh=>q4x g (rest.take a) text (text.length-rest.length+a) hl Om (.a (.v .nilIface)) [(0,some (.cells 53 [.i g,.s (rest.take a),.tp 1,.tp 2,.s R.2.2.2])),(1,some (.tip 1 23 (R.2.1.map zh))),(2,some (.tip 1 3 (R.2.2.1.map λx=>Iv x)))] 3 R hR (λ_=>⟨rfl,rfl,rfl⟩) h;have dt:=λh=>q4x g (rest.take a) text (text.length-rest.length+a) hl Om (.a (errA (.at' R.2.1.length 10))) [] 1 R hR h (λ_=>⟨rfl,rfl,rfl⟩);generalize itsE (rest.take a)=its at lv
 cases lw:jx (rest.take a)with
 |no=>
  rw[lw]at hF lv;simp only at hF;by_cases ng:R.1=true
  .rw[if_pos ng]at hF
   rw[hF];apply qd [];repeat' (first|apply Qa|(intro h;try exact cDd)|exact⟨Tryz.call63⟩|refine cpe htk2 ?_|exact⟨Tryz.call64⟩|refine cpe nj ?_|exact⟨Tryz.call65⟩|refine cpe lv ?_|exact⟨Tryz.call66⟩|(refine jn (dt λh=>by rw[ng]at h;simp at h) ?_)|exact cSd|apply qb []|refine exr ?_|refine qe ?_)
   all_goals exact congrArg Iv hsub
  .rw[if_neg ng]at hF
   rw[hF];apply qd [];repeat' (first|apply Qa|(intro h;try exact cDd)|exact⟨Tryz.call63⟩|refine cpe htk2 ?_|exact⟨Tryz.call64⟩|refine cpe nj ?_|exact⟨Tryz.call65⟩|refine cpe lv ?_|exact⟨Tryz.call66⟩|(refine jn (hok λh=>absurd h ng) ?_)|exact cSd|apply qb []|refine exr ?_|refine qe ?_)
   all_goals exact congrArg Iv hsub
 |num n=>
  rw[lw]at hF lv;have hF2:zx text=(.num n,qar):=hF;rw[hF2];apply qd []
  repeat' (first|apply Qa|(intro h;try exact cDd)|exact⟨Tryz.call63⟩|refine cpe htk2 ?_|exact⟨Tryz.call64⟩|refine cpe nj ?_|exact⟨Tryz.call65⟩|refine cpe lv ?_|exact cSd|apply qb []|refine exr ?_|refine qe ?_)
 |at' p n=>
  rw[lw]at hF lv;have hF2:zx text=(.at' p n,qar):=hF;rw[hF2];apply qd [];repeat' (first|apply Qa|(intro h;try exact cDd)|exact⟨Tryz.call63⟩|refine cpe htk2 ?_|exact⟨Tryz.call64⟩|refine cpe nj ?_|exact⟨Tryz.call65⟩|refine cpe lv ?_|exact cSd|apply qb []|refine exr ?_|refine qe ?_)
theorem q5w(n:Int):(wa n).length<=100:=by
 unfold wa;split
 .rename_i h
  have:=q1u h;omega
 .simp
theorem ziu(b:jy)(st:List AObj)(hb:b.base.length<1000000)(he:b.ends.length<1000000):qp E 32 [qas b] st λr st'=>r=Iv (qbr b)∧st'=st:=by
 have hh:=q5w b.gen;have d7:=λst=>zf1 b.gen st;refine ze [.a (qas b)] (qr _) Tryz.func32 rfl rfl (λ_=>rfl) rfl λS0=>?_;by_cases h0:b.ends=[]
 .have e:qbr b=((wa b.gen).length:Int)+(b.base.length:Int):=by simp[qbr,h0]
  rw[e];have hl0:(b.ends.map λx=>Iv x).length=0:=by simp[h0]
  apply qd [];repeat' (first|apply Qa|(intro h;try exact cDd)|exact⟨Tryz.call56⟩|refine cpe d7 ?_|exact cSd|apply qb []|refine exr ?_|refine qe ?_)
 .obtain⟨x,hx⟩:∃x,b.ends.getLast?=some x:=by
   cases h:b.ends.getLast? with
   |none=>exact absurd (List.getLast?_eq_none_iff.1 h) h0
   |some x=>exact⟨x,rfl⟩
  have e:qbr b=x:=by simp[qbr,hx]
  rw[e];have hl0:0<b.ends.length:=Qf.2 h0;have o0:(b.ends.map λx=>Iv x).length=b.ends.length:=Sx
  have hg:(b.ends.map λx=>Iv x)[b.ends.length-1]?=some (Iv x):=by
   rw[Zd]at hx;simp[hx]
  apply qd [];repeat' (first|apply Qa|(intro h;try exact cDd)|exact⟨Tryz.call56⟩|refine cpe d7 ?_|(refine Qb (b.ends.length-1) ⟨Om,_,hg,?_⟩)|exact cSd|apply qb []|refine exr ?_|refine qe ?_)
theorem q2e:∀r:List (List qm),r.length<=(vf r).length
 | []=>by simp[vf]
 |b::r=>by
  have:=q2e r;have h1:=qvi b;rw[qa8];simp;omega
structure zpj (text:qa) (b:jy):Prop where
 base:b.base.length<1000000
 tail:b.tail.length<1000000
 ends : b.ends.length < 1000000
 whole:qbr b=((y8 b).length:Int)
 wlen:(y8 b).length<=text.length
 size:qbr b+b.tail.length=text.length
theorem qtg{text:qa}{b:jy}(h:xz text b):zpj text b:=by
 have h1:=congrArg Qp h.split;have h2:=h.len;have h3:=q2e b.batches;have h4:=h.whole;simp only[Qu,y8]at h1;refine⟨Om,Om,by rw[h.ends,qlc];omega,h4,by simp only[y8,Qu];omega,?_⟩;rw[h4];simp only[y8,Qu];omega
theorem zez(text:qa)(x:List qm)(st:List AObj)(hl:text.length<1000000)(hB:∀y∈x,EdB y)(hx:x.length<1000000):qp E 14 [Sv text,zh x] st λr st'=>r=.tu [Sv (Go.Pl.appF text x).2,errA (Go.Pl.appF text x).1]∧st'=st:=by
 refine ze [.s text,.a (zh x)] (ju (qr _) (ki _)) Tryz.func14 rfl rfl (λ_=>rfl) rfl λS0=>?_;have r7:=λst=>zab text st hl;unfold Go.Pl.appF;have gx:zx text=((zx text).1,(zx text).2):=rfl
 cases s6:(zx text).1 with
 |no=>
  rw[s6]at gx;have hT:=qic gx;have hS:=qtg hT;obtain⟨pd,pt,hs3,hs4,hs5,hs6⟩:=hS;rw[gx]at r7;generalize(zx text).2=b at r7 hT pd pt hs3 hs4 hs5 hs6;unfold qqy at r7;have hwh:=λst=>ziu b st pd hs3;rw[hs4]at hwh;simp only[hs4,Qn];have sw:=hT.len
  cases rv:eErr x with
  |no=>
   have u0:=λst=>q1h x st hB rv;by_cases h5:50000<(encF x).length
   .simp only[if_pos h5]
    apply qd [];repeat' (first|apply Qa|(intro h;try exact cDd)|exact⟨Tryz.call29⟩|refine cpe r7 ?_|exact⟨Tryz.call30⟩|refine cpe u0 ?_|exact cSd|apply qb []|refine exr ?_|refine qe ?_)
   .simp only[if_neg h5]
    have lg:qem x:=⟨rv,hB,Om⟩;have tw:=λst=>zgz (encF x) st Om lg.good;have dg:=qyb lg.good;have tx:recF (encF x)=recE x:=rfl;rw[tx]at tw dg;by_cases h12:(120000:Int)<((y8 b).length:Int)+((recE x).length:Int)
    .rw[if_pos h12]
     apply qd [];repeat' (first|apply Qa|(intro h;try exact cDd)|exact⟨Tryz.call29⟩|refine cpe r7 ?_|exact⟨Tryz.call30⟩|refine cpe u0 ?_|exact⟨Tryz.call31⟩|refine cpe tw ?_|exact⟨Tryz.call32⟩|refine cpe hwh ?_|exact cSd|apply qb []|refine exr ?_|refine qe ?_)
    .rw[if_neg h12]
     apply qd []
     repeat' (first|apply Qa|(intro h;try exact cDd)|exact⟨Tryz.call29⟩|refine cpe r7 ?_|exact⟨Tryz.call30⟩|refine cpe u0 ?_|exact⟨Tryz.call31⟩|refine cpe tw ?_|exact⟨Tryz.call32⟩|refine cpe hwh ?_|exact cSd|apply qb []|refine exr ?_|refine qe ?_)
  |num n=>
   have u0:=λst=>qmb x st _ hB Om rv (λh=>by have:=(qdr x).1 (by rw[rv];exact h);rw[rv]at this;simp at this);apply qd []
   repeat' (first|apply Qa|(intro h;try exact cDd)|exact⟨Tryz.call29⟩|refine cpe r7 ?_|exact⟨Tryz.call30⟩|refine cpe u0 ?_|exact cSd|apply qb []|refine exr ?_|refine qe ?_)
  |at' p n=>
   have u0:=λst=>qmb x st _ hB Om rv (λh=>by have:=(qdr x).1 (by rw[rv];exact h);rw[rv]at this;simp at this);apply qd []
   repeat' (first|apply Qa|(intro h;try exact cDd)|exact⟨Tryz.call29⟩|refine cpe r7 ?_|exact⟨Tryz.call30⟩|refine cpe u0 ?_|exact cSd|apply qb []|refine exr ?_|refine qe ?_)
 |num n=>
  rw[s6]at gx;rw[gx]at r7;unfold qqy at r7;apply qd []
  repeat' (first|apply Qa|(intro h;try exact cDd)|exact⟨Tryz.call29⟩|refine cpe r7 ?_|exact cSd|apply qb []|refine exr ?_|refine qe ?_)
 |at' p n=>
  rw[s6]at gx;rw[gx]at r7;unfold qqy at r7;apply qd [];repeat' (first|apply Qa|(intro h;try exact cDd)|exact⟨Tryz.call29⟩|refine cpe r7 ?_|exact cSd|apply qb []|refine exr ?_|refine qe ?_)
def cutL:List LnV->Int->Int
 | [],d=>d
 |x::r,d=>if begF x.text=true then(x.at':Int)else cutL r d
theorem zaf:∀(n:Nat)(l:qa)(k a N:Nat),l.length<=n->(l=[]∨a+l.length=N)->cutL (v4 k a l) N=((jf N l:Nat):Int)
 |n,l,k,a,N,hn,ha=>by
  by_cases h:l=[]
  .subst h
   rw[qbh,qfb]
   try rfl
  .have d9:=xq (c:=10) h
   have d7:a+l.length=N:=ha.resolve_left h
   cases n with
   |zero=>omega
   |succ n=>
    rw[qbn h,cutL];by_cases hb:begF (upto 10 l)=true
    .rw[if_pos hb,qki h hb]
     simp only;omega
    .rw[if_neg hb,ql4 h hb]
     refine zaf n (past 10 l) (k+1) _ N Om ?_;by_cases i3:10∈l
     .right
      have e:=congrArg Qp (wo i3);simp only[Qu,Zr,Zf]at e;omega
     .left
      unfold past;rw[xy i3];exact Qv Om
theorem q7n(text:qa):∃its,qcu text=.tu [vu its,Iv (jx text).pos,Iv (jx text).code]:=by
 unfold qcu jx;split
 .exact⟨[],rfl⟩
 .rcases(jl text).1 with _|⟨a,n⟩
  .exact⟨_,rfl⟩
  .exact⟨[],rfl⟩
def qbo(x:ErrV×jy):AV:=.tu [qas x.2,Iv x.1.pos,Iv x.1.code]
theorem q3g(x:ErrV×jy):Pure (qbo x):=yc (qfc _) (qr _) (qr _)
theorem q7q(text:qa)(b:jy)(st:List AObj)(h1:text.length<1000000)(h2:b.tail.length<1000000):qp E 54 [Sv text,qas b] st λr st'=>r=Iv ((text.length:Int)-(b.tail.length:Int))∧st'=st:=by
 refine ze [.s text,.a (qas b)] (qr _) Tryz.func54 rfl rfl (λ_=>rfl) rfl λS0=>?_;apply qd [];repeat' (first|apply Qa|(intro h;try exact cDd)|exact cSd|apply qb []|refine exr ?_|refine qe ?_)
theorem qps:∀(r:List (qa×Bool))(i:Nat)(prev:Bool)(now:zg)(rec:Int)(out:List zg)(e:Int×Int),(refL i r prev now rec out).1=some e->e.2≠0
 | [],i,prev,now,rec,out,e,h=>by simp[refL]at h
 |(t,b)::r,i,prev,now,rec,out,e,h=>by
  rw[refL]at h;split at h
  .rename_i hw
   simp only[Zq]at h;subst h;exact hw
  .split at h
   .exact qps r _ _ _ _ _ e h
   .split at h
    .exact qps r _ _ _ _ _ e h
    .exact qps r _ _ _ _ _ e h
theorem qph{text:qa}{n:Int}(h:jx text=.num n):n=1:=by
 unfold jx at h;split at h
 .simpa using h.symm
 .split at h<;>simp at h
theorem qrv{text:qa}{a n:Int}(h:jx text=.at' a n):n≠0:=by
 unfold jx at h;split at h
 .simp at h
 .split at h
  .simp at h
  .rename_i a' n' hp
   simp only[ErrV.at'.injEq]at h;rw[<-h.2];have:=qej text;exact qps _ _ _ _ _ _ (a',n') (by rw[this];exact hp)
theorem qr2(text:qa)(hl:text.length<1000000):∃its p n,(∀st,qp E 92 [Sv text] st λr st'=>r=.tu [vu its,Iv p,Iv n]∧st'=st)∧p=(jx text).pos∧n=(jx text).code∧(n=0↔jx text=.no):=by
 obtain⟨its,hits⟩:=q7n text;refine⟨its,_,_,λst=>by rw[<-hits];exact qr1 text st hl,rfl,rfl,?_⟩
 cases lw:jx text with
 |no=>simp[ErrV.code]
 |num n=>have:=qph lw;simp[ErrV.code];omega
 |at' a n=>have:=qrv lw;simp[ErrV.code];omega
theorem q7i(x:Option (List qm)):∃b o,qdm x=.tu [zh b,Bv o]:=by
 cases x with
 |none=>exact⟨[],false,rfl⟩
 |some b=>exact⟨b,true,rfl⟩
set_option maxHeartbeats 1000000 in
theorem qt7(text:qa)(st:List AObj)(hl:text.length<1000000):qp E 44 [Sv text] st λr st'=>r=qbo (zx text)∧st'=st:=by
 refine ze [.s text] (q3g _) Tryz.func44 rfl rfl (λ_=>rfl) rfl λS0=>?_;by_cases bd:120000<text.length
 .have e:zx text=(.num 1,qar):=if_pos bd
  rw[e];apply qd [];repeat' (first|apply Qa|(intro h;try exact cDd)|exact cSd|apply qb []|refine exr ?_|refine qe ?_)
 have r9:=qjk text
 have dg:(wv text).2.length<=text.length:=by
  conv=>rhs;rw[r9.1]
  simp
 have cz:=qqv (wv text).2;obtain⟨g,rest,i7⟩:∃g rest,wv text=(g,rest):=⟨_,_,rfl⟩
 have hF:zx text=match jx (rest.take (jf rest.length rest))with
   |.no=>if(Go.Pl.recsF (text.length+1) (rest.drop (jf rest.length rest)) (((text.length-rest.length+jf rest.length rest:Nat)):Int) [] []).1=true then(.at' (Go.Pl.recsF (text.length+1) (rest.drop (jf rest.length rest)) (((text.length-rest.length+jf rest.length rest:Nat)):Int) [] []).2.1.length 10,qar)
    else(.no,⟨g,rest.take (jf rest.length rest),(Go.Pl.recsF (text.length+1) (rest.drop (jf rest.length rest)) (((text.length-rest.length+jf rest.length rest:Nat)):Int) [] []).2.1,(Go.Pl.recsF (text.length+1) (rest.drop (jf rest.length rest)) (((text.length-rest.length+jf rest.length rest:Nat)):Int) [] []).2.2.1,(Go.Pl.recsF (text.length+1) (rest.drop (jf rest.length rest)) (((text.length-rest.length+jf rest.length rest:Nat)):Int) [] []).2.2.2⟩)
   |e=>(e,qar):=by
  unfold zx;rw[if_neg bd];unfold qd3 qhq atH qcx;rw[i7]
  try rfl
 have htk2:∀st,qp E 89 [Sv text] st λr st'=>r=.tu [Iv g,Sv rest]∧st'=st:=λst=>by
  have:=q9t text st hl;rw[i7]at this;exact this
 rw[i7]at dg cz r9;simp only at dg cz r9
 have hdr:rest.drop (jf rest.length rest)=text.drop (text.length-rest.length+jf rest.length rest):=by
  have h1:text.length=(wa g).length+rest.length:=by
   have:=congrArg Qp r9.1
   simpa using this
  conv=>rhs;rhs;rw[r9.1]
  rw[<-Qc,show text.length-rest.length=(wa g).length by omega,Qi]
 rw[hdr]at hF;clear hdr r9 i7;have hspl:=λst=>qku rest st Om;have hcut:cutL (lns rest) rest.length=((jf rest.length rest:Nat):Int):=zaf _ rest 0 0 rest.length (Qd _) (.inr Om);have hLl:(lns rest).length<=rest.length:=qdt _ rest 0 0 (Qd _);have hLv:∀x∈lns rest,x.text.length<=rest.length:=λx hx=>qxv _ rest 0 0 (Qd _) x hx;generalize lns rest=L at hspl hcut hLl hLv;generalize jf rest.length rest=a at hF cz hcut;have o0:(L.map lnA).length=L.length:=Sx
 apply qd [];repeat' (first|apply Qa|(intro h;try exact cDd)|exact⟨Tryz.call89⟩|refine cpe htk2 ?_|exact⟨Tryz.call90⟩|refine cpe hspl ?_|exact cSd|apply qb []|refine exr ?_|refine qe ?_)
 refine zw (X:=Nat) (λk=>⟨[(0,.s text),(2,.bx 0 0),(5,.i g),(6,.s rest),(7,.a (lnsA L)),(8,.i (cutL (L.drop k) rest.length)),(9,.i ((k:Int)-1))],[(0,some (.cells 65 [.i 0,.s [],.a zm,.a zm,.s []]))],1⟩) (λk=>k<=L.length) (λk=>k) L.length (Qd _) ?_ ?_
 .skip
  repeat' (first|apply Qa|(intro h;try exact cDd)|exact cSd|apply qb []|refine exr ?_|refine qe ?_)
  all_goals first|(simp[cutL];done)
 .intro k hk
  cases k with
  |succ j=>
   obtain⟨x,hx⟩:∃x,L[j]?=some x:=⟨_,Qe Om⟩;have lg:=qk1 hx;have hxv:=hLv x (Qm hx);have s6:=λst=>q7f x.text st Om
   have hdj:L.drop j=x::L.drop (j+1):=by
    obtain⟨d9,e⟩:=Qy.1 hx;rw[Qg d9,e]
   apply qd [];repeat' (first|apply Qa|(intro h;try exact cDd)|exact⟨Tryz.call91⟩|refine cpe s6 ?_|(refine Qb (j) ⟨Om,_,lg,?_⟩)|(refine Qb j ⟨Om,Om,?_⟩)|exact cSd|apply qb []|refine exr ?_|refine qe ?_)
   all_goals first|(simp[hdj,cutL,begF, *];done)
  |zero=>
   have hc0:cutL (L.drop 0) rest.length=(a:Int):=by rw[Zu];exact hcut
   simp only[hc0];obtain⟨its,p,n,lv,hp,hn,gn⟩:=qr2 (rest.take a) So;have hsub:((text.length:Int)-(rest.length:Int))+(a:Int)=((text.length-rest.length+a:Nat):Int):=Om
   by_cases hz:n=0
   .rw[gn.1 hz]at hF
    simp only at hF;apply qd [];repeat' (first|apply Qa|(intro h;try exact cDd)|exact⟨Tryz.call92⟩|refine cpe lv ?_|exact cSd|apply qb []|refine exr ?_|refine qe ?_)
    refine zw (X:=Nat×Nat×List (List qm)×List Int) (λ(k,f,bs,es)=>⟨[(0,.s text),(2,.bx 0 0),(10,.bx 1 0),(14,.i k)],
      [(0,some (.cells 65 [.i 0,.s [],.a zm,.a zm,.s []])),(1,some (.cells 65 [.i g,.s (rest.take a),.tp 2,.tp 3,.s []])),(2,some (.tip 1 23 (bs.map zh))),(3,some (.tip 1 3 (es.map λx=>Iv x)))],4⟩)
     (λ(k,f,bs,es)=>k<=text.length∧text.length-k<f∧Go.Pl.recsF f (text.drop k) k bs es=Go.Pl.recsF (text.length+1) (text.drop (text.length-rest.length+a)) ((text.length-rest.length+a:Nat):Int) [] []∧bs.length<=k∧es.length<=k) (λx=>text.length-x.1) (text.length-rest.length+a,text.length+1,[],[])
     ⟨Om,Om,rfl,Sx,Sx⟩ ?_ ?_
    .skip
     repeat' (first|apply Qa|(intro h;try exact cDd)|exact cSd|apply qb []|refine exr ?_|refine qe ?_)
     all_goals first|(simp[hsub];done)
    .rintro⟨k,f,bs,es⟩ ⟨hk,hf,hR,hbl2,nq⟩
     generalize Go.Pl.recsF (text.length+1) (text.drop (text.length-rest.length+a)) ((text.length-rest.length+a:Nat):Int) [] []=R at hF hR;obtain⟨f,rfl⟩:∃f',f=f'+1:=⟨f-1,Om⟩;have i8:=λst=>zg9 (text.drop k) st So;have pn:(text.drop k).length=text.length-k:=Sx
     have hbd:=qqh (l:=text.drop k);have mt:=λst=>q9o (zi (text.drop k)).2.1 st Om;rcases qx9 (text.drop k)with h1|h2|h3
     .rw[h1]at i8
      obtain⟨n',nw,hn0',rl⟩:=q2b h1
      cases gj:decF (zi (text.drop k)).2.1 with
      |none=>
       rw[q2c h1 gj]at hR;rw[gj]at mt;rw[<-hR]at hF;rw[hF];apply qd [];repeat' (first|apply Qa|(intro h;try exact cDd)|exact⟨Tryz.call93⟩|refine cpe i8 ?_|exact⟨Tryz.call94⟩|refine cpe mt ?_|exact cSd|apply qb []|refine exr ?_|refine qe ?_)
       all_goals first|(simp[qbo,qar,ErrV.pos,ErrV.code];done)|(rw[<-hR,Qc,Qk];done)|(rw[<-hR,Qc,Qk];rfl)
      |some b=>
       rw[qyc h1 gj nw]at hR;rw[gj]at mt;rw[nw]at i8;apply qd [];repeat' (first|apply Qa|(intro h;try exact cDd)|exact⟨Tryz.call93⟩|refine cpe i8 ?_|exact⟨Tryz.call94⟩|refine cpe mt ?_|(refine Qb (k+n',f,bs++[b],es++[((k+n':Nat):Int)]) ⟨?_,by simp only;omega,?_⟩)|exact cSd|apply qb []|refine exr ?_|refine qe ?_)
       all_goals first|(simp[qbo,qar,ErrV.pos,ErrV.code];done)|(rw[<-hR,Qc,Qk];done)|(rw[<-hR,Qc,Qk];rfl)
     .rw[h2]at i8
      rw[qyd h2]at hR;rw[<-hR]at hF;rw[hF];apply qd [];repeat' (first|apply Qa|(intro h;try exact cDd)|exact⟨Tryz.call93⟩|refine cpe i8 ?_|exact⟨Tryz.call94⟩|refine cpe mt ?_|exact cSd|apply qb []|refine exr ?_|refine qe ?_)
      all_goals first|(simp[qbo,qar,ErrV.pos,ErrV.code];done)|(rw[<-hR,Qc,Qk];done)|(rw[<-hR,Qc,Qk];rfl)
     .rw[h3]at i8
      rw[q2d h3]at hR;rw[<-hR]at hF;rw[hF];obtain⟨b',o',hbo⟩:=q7i (decF (zi (text.drop k)).2.1);rw[hbo]at mt;apply qd [];repeat' (first|apply Qa|(intro h;try exact cDd)|exact⟨Tryz.call93⟩|refine cpe i8 ?_|exact⟨Tryz.call94⟩|refine cpe mt ?_|exact cSd|apply qb []|refine exr ?_|refine qe ?_)
      all_goals first|(simp[qbo,qar,ErrV.pos,ErrV.code];done)|(rw[<-hR,Qc,Qk];done)|(rw[<-hR,Qc,Qk];rfl)
   .have e:zx text=(jx (rest.take a),qar):=by
     rw[hF]
     cases lw:jx (rest.take a)with
     |no=>exact absurd (gn.2 lw) hz
     |_=>rfl
    rw[e];unfold qbo;simp only;rw[<-hp,<-hn];apply qd [];repeat' (first|apply Qa|(intro h;try exact cDd)|exact⟨Tryz.call92⟩|refine cpe lv ?_|exact cSd|apply qb []|refine exr ?_|refine qe ?_)
    all_goals first|(simp[qbo,qar,ErrV.pos,ErrV.code];done)|(rw[<-hR,Qc,Qk];done)|(rw[<-hR,Qc,Qk];rfl)
theorem qkj{text:qa}(h:(zx text).1≠.no):(zx text).1.code≠0:=by
 unfold zx at h⊢;split
 .simp[ErrV.code]
 .rename_i hb
  rw[if_neg hb]at h
  cases lw:jx (qhq text)with
  |no=>
   rw[lw]at h;simp only at h⊢;split
   .simp[ErrV.code]
   .rename_i hr
    rw[if_neg hr]at h
    exact absurd rfl h
  |num n=>have:=qph lw;simp[ErrV.code];omega
  |at' a n=>have:=qrv lw;simpa[ErrV.code]using this
theorem zam(x:List qm):∃p n,(eErr x).pos=p∧(eErr x).code=n∧(n=0↔eErr x=.no):=⟨_,_,rfl,rfl,qdr x⟩
theorem zdt(text:qa)(x:List qm)(st:List AObj)(hl:text.length<1000000)(hB:∀y∈x,EdB y)(hx:x.length<1000000):qp E 25 [Sv text,zh x] st λr st'=>r=.tu [Sv (Go.Pl.appF text x).2,Iv (Go.Pl.appF text x).1.pos,Iv (Go.Pl.appF text x).1.code]∧st'=st:=by
 refine ze [.s text,.a (zh x)] (yc (qr _) (qr _) (qr _)) Tryz.func25 rfl rfl (λ_=>rfl) rfl λS0=>?_;have r7:=λst=>qt7 text st hl;have gx:zx text=((zx text).1,(zx text).2):=rfl;by_cases s6:(zx text).1=.no
 .rw[s6]at gx
  have hT:=qic gx;obtain⟨pd,pt,hs3,hs4,hs5,hs6⟩:=qtg hT
  have hA:Go.Pl.appF text x=if eErr x=.no then(if 50000<(encF x).length then(.num 11,[])else if 120000<qbr (zx text).2+(recE x).length then(.num 11,[])else(.no,text.take (qbr (zx text).2).toNat++recE x))else(eErr x,[]):=by
   unfold Go.Pl.appF;rw[s6]
   cases eErr x<;>simp
  rw[hA];rw[gx]at r7;generalize(zx text).2=b at r7 hT pd pt hs3 hs4 hs5 hs6;unfold qbo at r7;have hwh:=λst=>q7q text b st hl pt;have hwe:(text.length:Int)-(b.tail.length:Int)=((y8 b).length:Int):=Om
  rw[hwe]at hwh;simp only[hs4,Qn];have sw:=hT.len;have s7:=λst=>qlp x st hB Om;by_cases rv:eErr x=.no
  .rw[if_pos rv]
   rw[rv]at s7;have u0:=λst=>qj8 x st hB rv;have d9:=λst=>qt5 (encF x).length st;by_cases h5:50000<(encF x).length
   .rw[if_pos h5]
    apply qd [];repeat' (first|apply Qa|(intro h;try exact cDd)|exact⟨Tryz.call44⟩|refine cpe r7 ?_|exact⟨Tryz.call53⟩|refine cpe s7 ?_|exact⟨Tryz.call28⟩|refine cpe u0 ?_|exact cSd|apply qb []|refine exr ?_|refine qe ?_)
   .rw[if_neg h5]
    have lg:qem x:=⟨rv,hB,Om⟩;have tw:=λst=>qt8 (encF x) st Om;have dg:=qyb lg.good;have tx:recF (encF x)=recE x:=rfl;have d7:=qne (encF x) lg.good;rw[<-d7]at d9;rw[tx]at tw dg d9;by_cases h12:(120000:Int)<((y8 b).length:Int)+((recE x).length:Int)
    .rw[if_pos h12]
     apply qd [];repeat' (first|apply Qa|(intro h;try exact cDd)|exact⟨Tryz.call44⟩|refine cpe r7 ?_|exact⟨Tryz.call53⟩|refine cpe s7 ?_|exact⟨Tryz.call28⟩|refine cpe u0 ?_|exact⟨Tryz.call55⟩|refine cpe d9 ?_|exact⟨Tryz.call54⟩|refine cpe hwh ?_|exact cSd|apply qb []|refine exr ?_|refine qe ?_)
    .rw[if_neg h12]
     apply qd [];repeat' (first|apply Qa|(intro h;try exact cDd)|exact⟨Tryz.call44⟩|refine cpe r7 ?_|exact⟨Tryz.call53⟩|refine cpe s7 ?_|exact⟨Tryz.call28⟩|refine cpe u0 ?_|exact⟨Tryz.call55⟩|refine cpe d9 ?_|exact⟨Tryz.call54⟩|refine cpe hwh ?_|exact⟨Tryz.call27⟩|refine cpe tw ?_|exact cSd|apply qb []|refine exr ?_|refine qe ?_)
  .rw[if_neg rv]
   obtain⟨p,n,hp,hn,gn⟩:=zam x;have hz:n≠0:=λh=>rv (gn.1 h);simp only[hp,hn]at s7⊢;apply qd [];repeat' (first|apply Qa|(intro h;try exact cDd)|exact⟨Tryz.call44⟩|refine cpe r7 ?_|exact⟨Tryz.call53⟩|refine cpe s7 ?_|exact cSd|apply qb []|refine exr ?_|refine qe ?_)
 .have hA:Go.Pl.appF text x=((zx text).1,[]):=by
   unfold Go.Pl.appF
   cases h:(zx text).1 with
   |no=>exact absurd h s6
   |_=>rfl
  have hz:=qkj s6;rw[hA];unfold qbo at r7;generalize(zx text).2=b at r7;generalize(zx text).1.pos=p at r7;generalize(zx text).1.code=n at r7 hz;apply qd [];repeat' (first|apply Qa|(intro h;try exact cDd)|exact⟨Tryz.call44⟩|refine cpe r7 ?_|exact cSd|apply qb []|refine exr ?_|refine qe ?_)
end Go.Proofs.YtlekheifonaipaaGreatDoor
namespace Go.Pl
open Go Go.Proofs
structure EntV where
 x:zg
 id:Int
structure qs where
 ents:List EntV
 next:Int
 many:Int
def x5(l:qs)(x:zg):qs:=if x.kind=3 then⟨l.ents++[⟨x,l.next⟩],l.next+1,l.many+1⟩else⟨l.ents++[⟨x,0⟩],l.next,l.many⟩
def ofF(its:List zg):qs:=its.foldl x5 ⟨[],1,0⟩
end Go.Pl
namespace Go.Proofs.YtlekheifonaipaaGreatDoor
open Go Go.Av Go.RowKit Go.Proofs Go.Pl
@[reducible] def entA (e : EntV) : AV := .ag [Iv e.x.kind, Sv e.x.raw, jd e.x.fields, Iv e.id]
@[reducible] def v6 (l : qs) : AV := .pp [.sl 4 (l.ents.map entA) none, Iv l.next, Iv l.many]
def qxu(e:ErrV)(l:qs):AV:=match e with
 |.no=>.tu [v6 l,errA .no]
 |e=>.tu [.v (.pointer none),errA e]
theorem qoq(e:EntV):qis (entA e):=λy hy=>by
 simp only[AV.cells,Qh,Qt,or_false]at hy;rcases hy with rfl|rfl|rfl|rfl
 .exact qr _
 .exact qr _
 .exact qa5 _
 .exact qr _
theorem qkq(l:qs):Pure (v6 l):=qzx λx hx=>by
 simp only[Qh,Qt,or_false]at hx;rcases hx with rfl|rfl|rfl
 .exact qbi λx hx=>by
   obtain⟨f,_,rfl⟩:=Ze.1 hx;exact qoq f
 .exact qr _
 .exact qr _
theorem qnb(e:ErrV)(l:qs):Pure (qxu e l):=by
 cases e with
 |no=>exact ju (qkq l) (ki _)
 |num n=>exact ju (qr _) (ki _)
 |at' a n=>exact ju (qr _) (ki _)
theorem qkw:∀(n:Nat)(rest:qa)(k:Nat)(p:PSt),rest.length<=n->PB (4*k) p->k+rest.length<=60000->(runL k (zo rest) p).2.items.length<=300000:=by
 have nil:∀(k:Nat)(p:PSt),PB (4*k) p->k<=60000->(runL k (zo []) p).2.items.length<=300000:=λk p hB hk=>by
  have e:j6 p 0 [] true 1=endP p:=rfl;have h:=qlx (no:=0) (text:=[]) (ended:=true) (kind:=1) hB Om Sx;rw[e]at h;have e2:runL k (zo []) p=endP p:=by rw[vv];rfl
  rw[e2];have:=h.items;omega
 intro n
 induction n with
 |zero=>
  intro rest k p hr hB hk;obtain rfl:rest=[]:=List.eq_nil_of_length_eq_zero Om
  exact nil k p hB (by simpa using hk)
 |succ n ih=>
  intro rest k p hr hB hk;by_cases b9:rest=[]
  .subst b9
   exact nil k p hB (by simpa using hk)
  .have hu:=vl 10 rest
   have dx:=vm 10 rest;have hr0:0<rest.length:=Qf.2 b9;rw[wl b9];simp only[runL];have ml:=qvr (no:=k) (text:=upto 10 rest) (ended:=decide (10∈rest)) hB Om Om;split
   .have:=hB.items
    simp only;omega
   .exact ih (past 10 rest) (k+1) _ Om ml Om
theorem qu8(text:qa):(itsE text).length<=300000:=by
 unfold itsE;split
 .simp
 .have h:=qkw text.length text 0 p0 (Qd _) zdk Om
  unfold jl;split
  .simp
  .exact h
theorem zjv(text:qa)(st:List AObj)(hl:text.length<1000000):qp E 81 [Sv text] st λr st'=>r=qxu (jx text) (ofF (itsE text))∧st'=st:=by
 refine qpn [.s text] (qnb _ _) Tryz.func81 rfl rfl (λ_=>rfl) rfl λS0=>?_;have hp:=λst=>q2o text st hl;have fc:=qu8 text;generalize itsE text=its at hp fc
 cases he:jx text with
 |num n=>
  rw[he]at hp;apply qd [19]
  repeat' (first|apply Qa|(intro h;try exact cDd)|exact⟨Tryz.call65⟩|refine cpe hp ?_|exact cSd|apply qb [19]|refine exr ?_|refine qe ?_)
 |at' a n=>
  rw[he]at hp;apply qd [19]
  repeat' (first|apply Qa|(intro h;try exact cDd)|exact⟨Tryz.call65⟩|refine cpe hp ?_|exact cSd|apply qb [19]|refine exr ?_|refine qe ?_)
 |no=>
  rw[he]at hp;apply qd [19];repeat' (first|apply Qa|(intro h;try exact cDd)|exact⟨Tryz.call65⟩|refine cpe hp ?_|exact cSd|apply qb [19]|refine exr ?_|refine qe ?_)
  refine zw (X:=Nat×qs) (λ(k,l)=>⟨[(6,.bx 0 0),(20,.a (vu its)),(21,.i its.length),(22,.i k)],[(0,some (.cells 166 [.tp 1,.i l.next,.i l.many])),(1,some (.tip 4 168 (l.ents.map entA)))],2⟩)
   (λ(k,l)=>k<=its.length∧l.ents.length=k∧(1<=l.next∧l.next<=k+1∧0<=l.many∧l.many<=k)∧(its.drop k).foldl x5 l=ofF its) (λ(k,l)=>its.length-k) (0,⟨[],1,0⟩) ⟨Om,rfl,⟨by decide,by decide,by decide,by decide⟩,rfl⟩ ?_ ?_
  .skip
   repeat' (first|apply Qa|(intro h;try exact cDd)|exact cSd|apply qb []|refine exr ?_|refine qe ?_)
   all_goals (simp;done)
  .rintro⟨k,l⟩ ⟨hk,hlk,bt,a8⟩
   by_cases e9:k<its.length
   .have hx:its[k]?=some its[k]:=Qe e9
    have g9:(its.map kq)[k]?=some (kq its[k]):=by rw[List.getElem?_map,hx];rfl
    rw[Qg e9,List.foldl_cons]at a8;have o0:(l.ents.map entA).length=l.ents.length:=Sx
    generalize its[k]=x at hx g9 a8;by_cases gm:x.kind=3
    .have e:x5 l x=⟨l.ents++[⟨x,l.next⟩],l.next+1,l.many+1⟩:=if_pos gm
     rw[e]at a8;apply qd [];repeat' (first|apply Qa|(intro h;try exact cDd)|(refine Qb (k) ⟨Om,_,g9,?_⟩)|(refine Qb (k+1,⟨l.ents++[⟨x,l.next⟩],l.next+1,l.many+1⟩) ⟨⟨Om,by simp[hlk],by simp only;omega,a8⟩,by simp only;omega,?_⟩)|exact cSd|apply qb []|refine exr ?_|refine qe ?_)
     all_goals (simp;done)
    .have e:x5 l x=⟨l.ents++[⟨x,0⟩],l.next,l.many⟩:=if_neg gm
     rw[e]at a8;apply qd [];repeat' (first|apply Qa|(intro h;try exact cDd)|(refine Qb (k) ⟨Om,_,g9,?_⟩)|(refine Qb (k+1,⟨l.ents++[⟨x,0⟩],l.next,l.many⟩) ⟨⟨Om,by simp[hlk],by simp only;omega,a8⟩,by simp only;omega,?_⟩)|exact cSd|apply qb []|refine exr ?_|refine qe ?_)
     all_goals (simp;done)
   .have e9:k=its.length:=by omega
    subst e9;rw[List.drop_length]at a8;have e:ofF its=l:=a8.symm;rw[e];apply qd [];repeat' (first|apply Qa|(intro h;try exact cDd)|exact cSd|apply qb []|refine exr ?_|refine qe ?_)
end Go.Proofs.YtlekheifonaipaaGreatDoor
namespace Go.Av
open Go Go.RowKit
theorem qm0{E:Env}{rd:Option Nat}{N:Nat}{ops:Array Oper}{K:AS->Prop}{s:AS}{rest:List Oper}{d:Option Tmp}{T:TypeId}{p:String}{af:Array Edge}{x:Operand}{t t' te:TypeId}{sz:Nat}{xs:List AV}{tip:Option Nat}(hx:ql N s x=.sl sz xs tip)(hu:E.P.underlying t=some (.slice te))
  (h1:xs=[]->AOps E rd N ops rest K (s.put d (Bv true))) (h2:AOps E rd N ops rest K (s.put d (Bv false))):AOps E rd N ops (⟨d,.binOp .eql t x (.const (.slice none 0 0)) t',T,p,af,none⟩::rest) K s:=by
 refine q9 rfl (q8 nofun λB0 w0 G a w _ hI=>?_);have he:=hI.eval_of hx
 have key:∃q n c,a.eval x=.slice q n c∧(q.isNone=true->xs=[]):=by
  generalize a.eval x=u at he
  cases he with
  |sl0=>exact⟨_,_,_,rfl,λ_=>rfl⟩
  |sl=>exact⟨_,_,_,rfl,λh=>by simp at h⟩
 obtain⟨q,n,c,hv,hq0⟩:=key;have hc:a.eval (.const (.slice none 0 0))=.slice none 0 0:=rfl;have hq:=Lib.run_eql_slice_nil (P:=E.P) w t te q n c 0 0 hu;refine⟨_,w,G,.v (.bool q.isNone),s.st,?_,.refl G,hI.agree,.v _,?_⟩
 .generalize a.eval=ρ at hv hc
  simp[execOp,hv,hc,eqGuard_at_slice,hq]
 .cases hb:q.isNone with
  |true=>exact h1 (hq0 hb)
  |false=>exact h2
theorem qd7.len0{c:AV}(h:qd7 c):∀(G:Gh)(v:Value),Rel G c v->∃b n cp,v=.slice b n cp∧n<=cp:=λG v hv=>by
 obtain⟨base,rfl⟩:=h.val G v hv;exact⟨_,_,_,rfl,Qd _⟩
end Go.Av
namespace Go.Proofs.YtlekheifonaipaaGreatDoor
open Go Go.Av Go.RowKit Go.Proofs Go.Pl
theorem qhs(fs:List Fld)(st:List AObj)(hl:fs.length<1000000):qp E 80 [jd fs] st λr st'=>r=jd fs∧st'=st:=by
 refine qz (qa5 _) (qq Tryz.func80 rfl (Qw rfl) ?_);have o0:(fs.map fldA).length=fs.length:=Sx
 rw[Qj];repeat' (first|(apply qdw (st:=st);(iterate 6 rfl))|(apply qm0;rfl;rfl;intro h0)|apply qo|apply qf|apply qh|apply qj|apply qg|(apply qc;rfl;apply cd_t;exact cRa)|(apply qc;rfl;apply cd_f;exact cRa)|apply qv|apply qu|(apply qk9 (b:=st.length) (xs:=[]) (ys:=fs.map fldA) (bytes:=32);(iterate 5 rfl);exact⟨⟨_,_,rfl,rfl,rfl,rfl,rfl⟩⟩;(focus (repeat' (first|assumption|exact q8a _ _ _ _|exact zbv _ _ _ _ _ _ _|apply qvw|apply q2v|(refine qbd (T:=_) (ver:=_) (cs:=_) ?_)|exact yg|exact j9 rfl|apply kg|apply j8|omega|apply qc4)));(exact qij);(first|rfl|exact qdv λ_=>rfl);((simp[maxLen];omega));((simp;omega));intro c' S' t1 g1 g2 g3 g4))
 .exact qn rfl (ya (q5 rfl) (λG v h=>by
   rw[jd,h0]
   exact qcw h)) ⟨rfl,_,(Qj st).symm⟩
 .exact qn rfl (ya (q5 rfl) (qpt g1)) ⟨rfl,qzn λj hj=>(g2.same j Om (Nat.lt_of_lt_of_le hj qij)).trans (Qs hj)⟩
theorem zcp(es:List EntV)(st:List AObj)(hl:es.length<1000000):qp E 124 [.sl 4 (es.map entA) none] st λr st'=>OwnR 4 168 (es.map entA) st (.v undef) r st':=by
 refine qq Tryz.func124 rfl (Qw rfl) ?_;have o0:(es.map entA).length=es.length:=Sx
 rw[Qj];by_cases he:es=[]
 .subst he
  repeat' (first|(apply qdw (st:=st);(iterate 6 rfl))|(apply qm0;rfl;rfl;intro h0)|(apply qqp (c:=.os st.length 0 0 0 0);rfl;exact(qro _ _ _).len0;exactλ_ _ h=>h;rfl;rfl;exact⟨⟨_,_,rfl,rfl,rfl,rfl,rfl⟩⟩)|apply qo|apply qf|apply qh|apply qj|apply qg|(apply qc;rfl;apply cd_t;exact cRa)|(apply qc;rfl;apply cd_f;exact cRa)|apply qv|apply qu)
  .exact qn rfl (q5 rfl) ⟨.inl ⟨rfl,qvd none⟩,Qd _,λ_ _ _=>rfl,λo ho=>by
   have ho:(none:Option Nat)=some o:=ho
   simp at ho⟩
  .exact qn rfl (q5 rfl) ⟨.inl ⟨rfl,qro _ _ _⟩,qij,λj hj _=>Qs hj,λo ho=>by
   have ho:(none:Option Nat)=some o:=ho
   simp at ho⟩
 .have b9:es.map entA≠[]:=by simpa using he
  repeat' (first|(apply qdw (st:=st);(iterate 6 rfl))|(apply qm0;rfl;rfl;intro h0)|(refine qgf (ys:=es.map entA) (bytes:=56) (qro _ _ _).val (λ_ _ h=>h) rfl rfl ⟨⟨_,_,rfl,rfl,rfl,rfl,rfl⟩⟩ (qdv λ_=>rfl) b9 (by simp[maxLen];omega) So λcap pad q1 q2 q3 q4=>?_)|apply qo|apply qf|apply qh|apply qj|apply qg|(apply qc;rfl;apply cd_t;exact cRa)|(apply qc;rfl;apply cd_f;exact cRa)|apply qv|apply qu)
  .exact absurd h0 b9
  .refine qn rfl (q5 rfl) ⟨.inr ⟨_,0,cap,pad,rfl,yg,q1,q2,q3,q4⟩,Zv qij qij,λj hj _=>?_,λo ho=>?_⟩
   .show((st++[_])++[_])[j]?=_
    rw[Qs So,Qs hj]
   .have e8:some (st++[AObj.cells 0 168 []]).length=some o:=ho
    simp only[Zq]at e8;left;rw[<-e8];simp
end Go.Proofs.YtlekheifonaipaaGreatDoor
