/- Contracts and plain facts that the closing text leans on (part 7). No condition of their own beyond those that each states. -/
import Derived.Test.YthnbabbhpeebbaaGreatDoorK6
import Derived.Lib.SliceRun
set_option maxRecDepth 100000
set_option linter.unusedVariables false
set_option linter.unusedSimpArgs false
open And renaming intro→Qa
open Exists renaming intro→Qb
open Int renaming toNat_natCast→Ql
open List renaming append_assoc→Qc,length_append→Qd,drop_left→Qe,mem_cons→Qf,getElem?_append_left→Qg,take_append_drop→Qh,append_nil→Qj,length_map→Qk,not_mem_nil→Qm,getElem?_eq_getElem→Qo,getElem?_set_ne→Qp,getElem?_map→Qq,drop_eq_getElem_cons→Qr,drop_drop→Qs,take_left→Qt,exists_cons_of_ne_nil→Qu,mem_append→Qv,mem_singleton→Qw,mem_map→Qx,length_eq_zero_iff→Qy,drop_eq_nil_of_le→Qz,prefix_refl→Za,drop_length→Zb,length_take→Zc,length_drop→Zd,drop_append_of_le_length→Ze,length→Zf,length_cons→Zh,getElem_mem→Zi,nil_append→Zj,length_filter_le→Zl,mem_of_mem_drop→Zm,length_pos_iff→Zo,prefix_append→Zq,mem_cons_self→Zr,getLast?_cons→Zs,cons_append→Zt,foldl_cons→Zu,set_set→Zv
open List.cons renaming inj→Zn
open Nat renaming le_of_ble_eq_true→Qi,le_refl→Qn,min_eq_left→Zk,le_trans→Zp
open Prod.mk renaming injEq→Zg,inj→Zw
namespace Go.Pl
open Go Go.Proofs Go.Proofs.YthnbabbhpeebbaaGreatDoor
theorem qt1{l b:qa}{n:Int}(h:z4 l=(1,b,n)):y9 b∧∃m,l=recF b++m∧n=(recF b).length:=by
 unfold z4 at h;split at h
 .rename_i p7
  split at h
  .rename_i ho
   generalize hr:past 10 l=r at *;have hl:=qar p7;rw[hr]at hl;generalize hu:upto 10 l=u at *
   have rq:u=xc (jf u).1 (jf u).2.1∧2<=(jf u).1∧(jf u).1<=50000:=by
    simp only[jf,decide_eq_true_eq]at ho⊢;obtain⟨o1,o2,o3,o4,o5⟩:=ho;refine⟨?_,o3,qct _⟩;obtain⟨t,rfl⟩:=o1;rw[qnd]at *;have:=qg7 rfl (Zp (by decide) o3);unfold xc;rw[<-this,<-qar o2]
   generalize(jf u).1=n at *;generalize(jf u).2.1=fig at *;obtain⟨rfl,h2,hn⟩:=rq;split at h
   .unfold qd9 at h
    split at h<;>simp at h
   .rename_i mz
    split at h
    .rename_i hg
     have b9:(r.take n).length=n:=So
     unfold qa6 at h;rw[b9]at h;split at h
     .simp at h
     .split at h
      .rename_i hc
       obtain⟨⟨m,hm⟩,hs⟩:=hc;simp only[Zg,true_and]at h;obtain⟨rfl,rfl⟩:=h;refine⟨hg,m,?_,?_⟩
       .rw[qln,b9,<-hs,hl]
        unfold recL
        conv=>lhs;rw[<-Qh n r,<-hm]
        simp
       .rw[qqo _ hg,b9]
      .simp at h
    .simp at h
  .simp at h
 .split at h<;>simp at h
theorem qu8(s sub:qa)(i:Nat):Lib.occAt s sub i=true↔sub<+:s.drop i:=by
 unfold Lib.occAt;rw[List.isPrefixOf_iff_prefix]
theorem zhd{a:qa}(r:qa)(h:10∉a):Lib.cut (a++10::10::r) [10,10]=(a,r,true):=by
 have hi:Lib.index (a++10::10::r) [10,10]=(a.length:Int):=by
  refine Lib.index_first Sx ?_ λj hj=>?_
  .rw[qu8,Qe]
   exact⟨r,rfl⟩
  .cases hb:Lib.occAt (a++10::10::r) [10,10] j with
   |false=>rfl
   |true=>
    obtain⟨t,ht⟩:=(qu8 _ _ _).1 hb;rw[Ze Om]at ht
    have:a.drop j≠[]:=by
     intro e;have:=congrArg Zf e;simp at this;omega
    obtain⟨c,q,hq⟩:=Qu this;rw[hq]at ht;have p7:c=10:=by simpa using(Zn ht).1.symm
    exact absurd (Zm (by rw[hq,p7];simp:(10:UInt8)∈a.drop j)) h
 unfold Lib.cut;rw[hi,if_pos Om];simp only[Ql,List.take_left',Zh,List.length_nil];rw[show a.length+(0+1+1)=(a++[10,10]).length by simp,show a++10::10::r=(a++[10,10])++r by simp,Qe]
theorem zbg{l m:qa}(h:(Lib.cut l m).2.2=true):l=(Lib.cut l m).1++m++(Lib.cut l m).2.1:=by
 rcases Lib.index_spec l m with⟨h1,_⟩|⟨i,h1,h2,h3,_⟩
 .unfold Lib.cut at h
  rw[h1,if_neg Om]at h;simp at h
 .unfold Lib.cut
  rw[h1,if_pos Om];simp only[Ql];obtain⟨t,ht⟩:=(qu8 _ _ _).1 h3;have e:l.drop (i+m.length)=t:=by rw[<-Qs,<-ht,Qe]
  rw[e,Qc,ht,Qh]
def genL:qa:=[35,37,103,101,110,32]
def yg(n:Int):qa:=genL++Lib.itoa n++[10,10]
def qa1(n:Int):Prop:=1<=n∧n<=2147483648
instance (n:Int):Decidable (qa1 n):=inferInstanceAs (Decidable (_∧_))
def yi(text:qa):Int×qa:=
 if genL<+:text then
  match numZ (upto 10 (text.drop 6))with
  |some n=>if qa1 n∧[10,10]<+:text.drop (6+(upto 10 (text.drop 6)).length)then(n,text.drop (8+(upto 10 (text.drop 6)).length))else(0,text)
  |none=>(0,text)
 else(0,text)
theorem qml(v:Int):(10:UInt8)∉Lib.itoa v:=by
 intro h;by_cases hv:v<0
 .rw[qjk hv]at h
  rcases Qf.1 h with h|h
  .simp at h
  .have:=xk _ _ (Qn _) _ h
   simp at this
 .rw[qjl Om]at h
  have:=xk _ _ (Qn _) _ h;simp at this
theorem qmn(n:Int)(r:qa):yg n++r=genL++(Lib.itoa n++10::10::r):=by simp[yg]
theorem qm8{n:Int}(h:qa1 n)(r:qa):yi (yg n++r)=(n,r):=by
 unfold yi;have hd:(genL++(Lib.itoa n++10::10::r)).drop 6=Lib.itoa n++10::10::r:=by rw[show(6:Nat)=genL.length by rfl,Qe]
 rw[qmn,if_pos (Zq _ _),hd,yj _ (qml n),q83 (by have:=h.1;omega) (by have:=h.2;omega)];have e1:(genL++(Lib.itoa n++10::10::r)).drop (6+(Lib.itoa n).length)=10::10::r:=by rw[<-Qs,hd,Qe]
 have e2:(genL++(Lib.itoa n++10::10::r)).drop (8+(Lib.itoa n).length)=r:=by
  rw[show 8+(Lib.itoa n).length=(6+(Lib.itoa n).length)+2 by omega,<-Qs,e1];rfl
 simp only;rw[e1,e2,if_pos ⟨h,r,rfl⟩]
theorem qw8{text:qa}(h:∀n r,qa1 n->text≠yg n++r):yi text=(0,text):=by
 unfold yi;split
 .rename_i hp
  obtain⟨t,rfl⟩:=hp;have hd:(genL++t).drop 6=t:=by rw[show(6:Nat)=genL.length by rfl,Qe]
  rw[hd];split
  .rename_i n hn
   split
   .rename_i hc
    obtain⟨hg,r,hr⟩:=hc;rw[<-Qs,hd]at hr;obtain⟨he,_⟩:=q84 hn;refine absurd ?_ (h n r hg);rw[qmn,<-he];congr 1
    conv=>lhs;rw[<-Qh (upto 10 t).length t,qks,<-hr]
    rfl
   .rfl
  .rfl
 .rfl
theorem qqp(text:qa):(∃n r,qa1 n∧text=yg n++r∧yi text=(n,r))∨((∀n r,qa1 n->text≠yg n++r)∧yi text=(0,text)):=by
 by_cases h:∃n r,qa1 n∧text=yg n++r
 .obtain⟨n,r,hg,rfl⟩:=h
  exact .inl ⟨n,r,hg,rfl,qm8 hg r⟩
 .have h':∀n r,qa1 n->text≠yg n++r:=λn r hg e=>h ⟨n,r,hg,e⟩
  exact .inr ⟨h',qw8 h'⟩
def w9(n:Int):qa:=if qa1 n then yg n else []
theorem qk5(text:qa):text=w9 (yi text).1++(yi text).2∧((yi text).1=0∨qa1 (yi text).1):=by
 rcases qqp text with⟨n,r,hg,he,ht⟩|⟨_,ht⟩
 .rw[ht]
  simp only;unfold w9;rw[if_pos hg];exact⟨he,.inr hg⟩
 .rw[ht]
  exact⟨rfl,.inl rfl⟩
theorem qwm{n:Int}(h:qa1 n):(yg n).length<=28:=by
 have:=qog (v:=n) (by have:=h.1;omega) (by have:=h.2;omega);simp[yg,genL];omega
def begF(l:qa):Bool:=decide (l.head?=some 37∧qy l=5)
def ki(n:Nat)(l:qa):Nat:=if h:l=[]then n else if begF (upto 10 l)=true then n-l.length else ki n (past 10 l)
 termination_by l.length
 decreasing_by exact yn h
theorem qfx(n:Nat):ki n []=n:=by rw[ki,dif_pos rfl]
theorem ql4{n:Nat}{l:qa}(h:l≠[])(hb:begF (upto 10 l)=true):ki n l=n-l.length:=by rw[ki,dif_neg h,if_pos hb]
theorem qnz{n:Nat}{l:qa}(h:l≠[])(hb:¬begF (upto 10 l)=true):ki n l=ki n (past 10 l):=by
 conv=>lhs;rw[ki]
 rw[dif_neg h,if_neg hb]
theorem qny:∀(k n:Nat)(l:qa),l.length<=k->l.length<=n->n-l.length<=ki n l∧ki n l<=n
 |0,n,l,h,hn=>by
  have:l=[]:=Qy.1 Om;subst this;rw[qfx]
  simp
 |k+1,n,l,h,hn=>by
  by_cases hl:l=[]
  .subst hl;rw[qfx];simp
  .by_cases hb:begF (upto 10 l)=true
   .rw[ql4 hl hb]
    omega
   .have:=yn (c:=10) hl
    rw[qnz hl hb];have:=qny k n (past 10 l) Om Om;omega
theorem qsp:∀(k n:Nat)(l x:qa),l.length<=k->(∀p∈zv l,begF p.1=false∧p.2=true)->ki n (l++x)=ki n x
 |0,n,l,x,h,_=>by
  have:l=[]:=Qy.1 Om;subst this
  rfl
 |k+1,n,l,x,h,hp=>by
  by_cases hl:l=[]
  .subst hl;rfl
  .rw[wr hl]at hp
   obtain⟨h1,h2⟩:=hp _ (Zr ..);have p7:10∈l:=by simpa using h2
   have e:=qar p7
   have hu:upto 10 (l++x)=upto 10 l∧past 10 (l++x)=past 10 l++x:=by
    have e2:l++x=upto 10 l++10::(past 10 l++x):=by
     conv=>lhs;rw[e]
     simp
    rw[e2,yj _ (qd7 10 l),qad _ (qd7 10 l)];exact⟨rfl,rfl⟩
   rw[qnz (by simp[hl]) (by rw[hu.1];simp[h1]),hu.2];exact qsp k n _ x (by have:=yn (c:=10) hl;omega) λp hp'=>hp p (by simp[hp'])
theorem qiu:∀(r:List (qa×Bool))(k:Nat)(prev:Bool)(now:jc)(rec:Int)(out:List jc),(refL k r prev now rec out).1=none->∀x∈r,qy x.1≠5∧x.2=true
 | [],_,_,_,_,_,_=>by simp
 |(t,e)::r,k,prev,now,rec,out,h=>by
  rw[refL]at h;split at h
  .simp at h
  .rename_i hw
   have hx:qy t≠5∧e=true:=by
    unfold ya at hw;split at hw
    .simp at hw
    .rename_i hc
     exact⟨λh5=>hc (.inl h5),by cases e with|true=>rfl|false=>exact absurd (.inr (.inr rfl)) hc⟩
   have hr:∀x∈r,qy x.1≠5∧x.2=true:=by
    split at h
    .exact qiu r _ _ _ _ _ h
    .split at h
     .exact qiu r _ _ _ _ _ h
     .exact qiu r _ _ _ _ _ h
   intro x g9;rcases Qf.1 g9 with rfl|g9
   .exact hx
   .exact hr x g9
theorem q2o{text:qa}(h:(kr text).1=none):∀x∈zv text,begF x.1=false∧x.2=true:=λx hx=>by
 rw[<-q2r]at h;obtain⟨h1,h2⟩:=qiu _ _ _ _ _ _ h x hx;exact⟨by simp[begF,h1],h2⟩
theorem qj9{n:Nat}{fig l:qa}(hf:qah fig)(h:l<+:xc n fig)(d7:l≠[]):begF l=true:=by
 have p7:10∉l:=qvd h (qd2 n hf)
 have h58:(58:UInt8)∉l:=qvd h λh'=>by
  unfold xc at h';rcases Qv.1 h' with h'|h'
  .revert h';decide
  .rcases Qv.1 h' with h'|h'
   .exact qmu n (by decide) h'
   .rcases Qf.1 h' with h'|h'
    .simp at h'
    .exact qoe hf (by decide) h'
 obtain⟨c,q,rfl⟩:=Qu d7
 have hc:c=37:=by
  obtain⟨t,ht⟩:=h;unfold xc z6 at ht;exact(Zn ht).1
 subst hc
 have hk:=q2h p7 (λhb=>by
  have:=hb 37 Sx;revert this
  decide)
 simp only[begF,List.head?_cons,true_and,decide_eq_true_eq];rw[hk.2];rw[if_neg Sx,if_neg (by simp[x6]),if_neg (λh=>h58 h.1)]
theorem q7o{n:Nat}{fig body l:qa}(hf:qah fig)(h:l<+:recL n fig body)(d7:l≠[]):begF (upto 10 l)=true:=by
 rcases qwx (show l<+:xc n fig++10::(body++qe1 n) from h)with h|⟨r,rfl,hr⟩
 .rw[qfc (qvd h (qd2 n hf))]
  exact qj9 hf h d7
 .cases r with
  |nil=>
   rw[Qj,qfc (qd2 n hf)]
   exact qj9 hf (Za _) (by simp[xc,z6])
  |cons c r=>
   have:c=10:=by obtain⟨t,ht⟩:=hr;exact(Zn ht).1
   subst this;rw[yj _ (qd2 n hf)];exact qj9 hf (Za _) (by simp[xc,z6])
theorem zeq{b:qa}(x:qa)(hg:y9 b):begF (upto 10 (recF b++x))=true:=by
 rw[qln];have hx:qah (sumF b):=qqe (addP 0 b);unfold recL;rw[Qc,Zt,yj _ (qd2 _ hx)];exact qj9 hx (Za _) (by simp[xc,z6])
structure v4 where
 gen:Int
 base:qa
 batches:List (List qt)
 ends : List Int
 tail:qa
def qg4:v4:=⟨0,[],[],[],[]⟩
def qbn(text:qa):ErrV:=if 60000<text.length then .num 1 else match(kr text).1 with
 |none=>.no
 |some (a,n)=>.at' a n
def recsF:Nat->qa->Int->List (List qt)->List Int->Bool×List (List qt)×List Int×qa
 |0,l,_,bs,es=>(false,bs,es,l)
 |f+1,l,a,bs,es=>
  if(z4 l).1=2 then(false,bs,es,l)
  else if(z4 l).1=1 then match decF (z4 l).2.1 with
   |some b=>recsF f (l.drop (z4 l).2.2.toNat) (a+(z4 l).2.2) (bs++[b]) (es++[a+(z4 l).2.2])
   |none=>(true,bs,es,l)
  else(true,bs,es,l)
def qb2(text:qa):qa:=(yi text).2
def atH(text:qa):Nat:=ki (qb2 text).length (qb2 text)
def qig(text:qa):qa:=(qb2 text).take (atH text)
def qdf(text:qa):Bool×List (List qt)×List Int×qa:=recsF (text.length+1) ((qb2 text).drop (atH text)) (((text.length-(qb2 text).length+atH text:Nat)):Int) [] []
def ko(text:qa):ErrV×v4:=
 if 120000<text.length then(.num 1,qg4)
 else match qbn (qig text)with
  |.no=>if(qdf text).1=true then(.at' (qdf text).2.1.length 10,qg4)else(.no,⟨(yi text).1,qig text,(qdf text).2.1,(qdf text).2.2.1,(qdf text).2.2.2⟩)
  |e=>(e,qg4)
structure qet (b:List qt):Prop where
 ok:eErr b=.no
 B:∀x∈b,EdB x
 len:(encF b).length<=50000
theorem qet.dec{b:List qt}(h:qet b):decF (encF b)=some b:=ze4 h.ok h.B h.len
theorem qet.good{b:List qt}(h:qet b):y9 (encF b):=q79 h.ok h.B h.len
theorem zb4{t:qa}{b:List qt}(h:decF t=some b):qet b∧encF b=t:=by
 obtain⟨h1,h2,h3⟩:=zbi h;exact⟨⟨h1,zhf h,by rw[h2];exact h3⟩,h2⟩
def recE(b:List qt):qa:=recF (encF b)
def wc(bs:List (List qt)):qa:=bs.flatMap recE
def y7(a:Int):List (List qt)->List Int
 | []=>[]
 |b::r=>(a+(recE b).length)::y7 (a+(recE b).length) r
theorem qan(b:List qt)(r:List (List qt)):wc (b::r)=recE b++wc r:=rfl
theorem q6l(r:List (List qt))(b:List qt):wc (r++[b])=wc r++recE b:=by simp[wc]
theorem qs8:∀(r:List (List qt))(a:Int)(b:List qt),y7 a (r++[b])=y7 a r++[a+(wc r).length+(recE b).length]
 | [],a,b=>by simp[y7,wc]
 |x::r,a,b=>by
  rw[Zt,y7,y7,qs8 r,qan];simp;omega
theorem qja:∀(r:List (List qt))(a:Int),(y7 a r).length=r.length
 | [],_=>rfl
 |x::r,a=>by rw[y7];simp[qja r]
theorem qs7:∀(r:List (List qt))(a:Int),r≠[]->(y7 a r).getLast?=some (a+(wc r).length)
 | [],_,h=>absurd rfl h
 | [x],a,_=>by simp[y7,wc]
 |x::y::r,a,_=>by
  have:=qs7 (y::r) (a+(recE x).length) Sx;rw[y7,Zs];rw[this,qan x];simp;omega
theorem qrp(b:List qt):0<(recE b).length:=by
 unfold recE;rw[qln];simp[recL,xc,z6]
theorem q0z:∀(bs:List (List qt))(f:Nat)(t:qa)(a:Int)(xs:List (List qt))(es:List Int),(∀b∈bs,qet b)->(z4 t).1=2->bs.length<f->
  recsF f (wc bs++t) a xs es=(false,xs++bs,es++y7 a bs,t)
 | [],f+1,t,a,xs,es,_,ht,_=>by
  rw[recsF];simp only[wc,List.flatMap_nil,Zj,y7,Qj]
  rw[if_pos ht]
 |b::r,f+1,t,a,xs,es,h,ht,hf=>by
  have hb:=h b Sx
  have gn:z4 (wc (b::r)++t)=(1,encF b,((recE b).length:Int)):=by
   rw[qan,Qc];exact zc4 _ hb.good
  have hdr:(wc (b::r)++t).drop (recE b).length=wc r++t:=by
   rw[qan,Qc,Qe]
  rw[recsF,gn];simp only;rw[if_neg (by decide),if_pos trivial,hb.dec];simp only[Ql];rw[hdr,q0z r f t _ _ _ (λx hx=>h x (by simp[hx])) ht (by simp at hf;omega)];simp[y7]
theorem q0y:∀(f:Nat)(l:qa)(a:Int)(xs xs':List (List qt))(es es':List Int)(t:qa),l.length<f->recsF f l a xs es=(false,xs',es',t)->
  ∃bs,l=wc bs++t∧xs'=xs++bs∧es'=es++y7 a bs∧(∀b∈bs,qet b)∧(z4 t).1=2
 |0,l,a,xs,xs',es,es',t,hl,h=>absurd hl Om
 |f+1,l,a,xs,xs',es,es',t,hl,h=>by
  rw[recsF]at h;split at h
  .rename_i h2
   simp only[Zg,true_and]at h;obtain⟨rfl,rfl,rfl⟩:=h;exact⟨[],by simp[wc],Sx,by simp[y7],Sx,h2⟩
  .split at h
   .rename_i h1
    split at h
    .rename_i b hd
     obtain⟨hg,he⟩:=zb4 hd;have gn:z4 l=(1,(z4 l).2.1,(z4 l).2.2):=by rw[<-h1]
     obtain⟨_,m,hm,hn⟩:=qt1 gn;rw[<-he]at hm hn;have hm':l=recE b++m:=hm;have sf:(z4 l).2.2=((recE b).length:Int):=hn;have pt:=qrp b;have b9:l.length=(recE b).length+m.length:=by rw[hm'];simp
     have hdr:l.drop (recE b).length=m:=by
      conv=>lhs;rw[hm']
      rw[Qe]
     rw[sf,Ql,hdr]at h;obtain⟨bs,e1,e2,e3,e4,e5⟩:=q0y f m _ _ _ _ _ _ Om h;refine⟨b::bs,?_,by rw[e2];simp,by rw[e3];simp[y7],?_,e5⟩
     .rw[qan,Qc,<-e1]
      exact hm'
     .intro x hx
      rcases Qf.1 hx with rfl|hx
      .exact hg
      .exact e4 x hx
    .simp at h
   .simp at h
structure yb (text:qa) (b:v4):Prop where
 txt:text=w9 b.gen++(b.base++(wc b.batches++b.tail))
 gen:yi text=(b.gen,b.base++(wc b.batches++b.tail))
 parse:qbn b.base=.no
 good:∀x∈b.batches,qet x
 tail:(z4 b.tail).1=2
 ends : b.ends = y7 ((w9 b.gen).length + b.base.length) b.batches
 len:text.length<=120000
def BegP(x:qa):Prop:=x=[]∨begF (upto 10 x)=true
theorem q7n{t:qa}(h:(z4 t).1=2):BegP t:=by
 by_cases h0:t=[]
 .exact .inl h0
 .obtain⟨n,fig,body,R,hp,_⟩:=zf1 h
  obtain⟨_,_,_,_,_,hx⟩:=R;exact .inr (q7o hx hp h0)
theorem qvw{bs:List (List qt)}{t:qa}(hg:∀b∈bs,qet b)(h:(z4 t).1=2):BegP (wc bs++t):=by
 cases bs with
 |nil=>exact q7n h
 |cons b r=>
  refine .inr ?_;rw[qan,Qc];exact zeq _ (hg b Sx).good
theorem q7m{x:qa}(h:BegP x):x=[]∨x.head?=some 37:=by
 rcases h with h|h
 .exact .inl h
 .simp only[begF,decide_eq_true_eq]at h
  cases x with
  |nil=>exact .inl rfl
  |cons c r=>
   refine .inr ?_;have h1:=h.1;unfold upto at h1;by_cases hc:c=10
   .subst hc;simp at h1
   .simpa[hc]using h1
theorem qos{l:qa}(h:qbn l=.no):(∀p∈zv l,begF p.1=false∧p.2=true)∧l.length<=60000:=by
 unfold qbn at h;split at h
 .simp at h
 .split at h
  .rename_i hp
   exact⟨q2o hp,Om⟩
  .simp at h
theorem q40{l x:qa}(h:qbn l=.no)(hx:BegP x):ki (l++x).length (l++x)=l.length:=by
 rw[qsp _ _ l x (Qn _) (qos h).1];rcases hx with rfl|hx
 .rw[qfx];simp
 .by_cases h0:x=[]
  .subst h0;rw[qfx];simp
  .rw[ql4 h0 hx]
   simp
theorem zes{text:qa}{b:v4}(h:yb text b):ko text=(.no,b):=by
 have hr:qb2 text=b.base++(wc b.batches++b.tail):=by unfold qb2;rw[h.gen]
 have ha:atH text=b.base.length:=by
  unfold atH;rw[hr];exact q40 h.parse (qvw h.good h.tail)
 have hb:qig text=b.base:=by
  unfold qig;rw[ha,hr,Qt]
 have hl:text.length-(qb2 text).length=(w9 b.gen).length:=by
  rw[hr]
  conv=>lhs;rw[h.txt]
  simp
 have hc:qdf text=(false,b.batches,b.ends,b.tail):=by
  unfold qdf;rw[hl,ha,hr,Qe,q0z b.batches _ b.tail _ _ _ h.good h.tail]
  .rw[h.ends]
   simp
  .have:∀bs:List (List qt),bs.length<=(wc bs).length:=λbs=>by
    induction bs with
    |nil=>simp
    |cons x r ih=>
     have:=qrp x;rw[qan];simp;omega
   have:=this b.batches;rw[h.txt];simp;omega
 have b9:=h.len;unfold ko;rw[if_neg Om,hb,h.parse,hc,h.gen];simp
theorem qq0{text:qa}{b:v4}(h:ko text=(.no,b)):yb text b:=by
 unfold ko at h;split at h
 .simp at h
 .rename_i b9
  split at h
  .rename_i hp
   split at h
   .simp at h
   .rename_i hc
    simp only[Zg,true_and]at h;subst h;have hs:=qk5 text;have d8:atH text<=(qb2 text).length:=(qny _ _ _ (Qn _) (Qn _)).2
    have hrl:(qb2 text).length<=text.length:=by
     conv=>rhs;rw[hs.1]
     unfold qb2;simp
    have hhl:text.length-(qb2 text).length=(w9 (yi text).1).length:=by
     have:text.length=(w9 (yi text).1).length+(qb2 text).length:=by
      conv=>lhs;rw[hs.1]
      unfold qb2;simp
     omega
    have hq:qdf text=(false,(qdf text).2.1,(qdf text).2.2.1,(qdf text).2.2.2):=by
     have:(qdf text).1=false:=by simpa using hc
     rw[<-this]
    obtain⟨bs,e1,e2,e3,e4,e5⟩:=q0y _ _ _ _ _ _ _ _ So (show recsF (text.length+1) _ _ _ _=_ from hq);simp only[Zj]at e2 e3;have tg:(qig text).length=atH text:=by unfold qig;simp;omega
    have fm:qb2 text=qig text++(wc bs++(qdf text).2.2.2):=by
     rw[<-e1];unfold qig;rw[Qh]
    refine⟨?_,?_,hp,?_,e5,?_,Om⟩
    .simp only
     rw[e2,<-fm];exact hs.1
    .simp only
     rw[e2,<-fm];rfl
    .simp only
     rw[e2];exact e4
    .simp only
     rw[e2,e3,tg,hhl];simp
  .rename_i hp
   simp only[Zg]at h;exact absurd h.1 hp
def js(b:v4):qa:=w9 b.gen++(b.base++wc b.batches)
def ka(b:v4):Int:=match b.ends.getLast? with
 |some e=>e
 |none=>((w9 b.gen).length+b.base.length:Nat)
theorem yb.split{text:qa}{b:v4}(h:yb text b):text=js b++b.tail:=by
 have:=h.txt;unfold js
 simpa using this
theorem yb.whole{text:qa}{b:v4}(h:yb text b):ka b=((js b).length:Int):=by
 unfold ka;rw[h.ends];by_cases h0:b.batches=[]
 .rw[h0]
  simp[y7,js,h0,wc]
 .rw[qs7 _ _ h0]
  simp[js];omega
theorem yb.take{text:qa}{b:v4}(h:yb text b):text.take (ka b).toNat=js b:=by
 rw[h.whole,Ql]
 conv=>lhs;rw[h.split]
 rw[Qt]
theorem q5n{l:qa}(h:l≠[])(hp:∀p∈zv l,p.2=true):l.getLast?=some 10:=by
 have:∀(k:Nat)(l:qa),l.length<=k->l≠[]->(∀p∈zv l,p.2=true)->l.getLast?=some 10:=by
  intro k
  induction k with
  |zero=>intro l hl h0;exact absurd (Qy.1 Om) h0
  |succ k ih=>
   intro l hl h0 hp;rw[wr h0]at hp;have p7:10∈l:=by simpa using hp _ (Zr ..)
   have e:=qar p7;by_cases hq:past 10 l=[]
   .rw[hq]at e
    rw[e];simp
   .have:=ih (past 10 l) (by have:=yn (c:=10) h0;omega) hq λp hp'=>hp p (by simp[hp'])
    rw[e];rw[List.getLast?_append,Zs,this];simp
 exact this _ l (Qn _) h hp
theorem zff{l x:qa}{n:Int}(h:∀p∈zv l,p.2=true)(hx:x=[]∨x.head?=some 37)(hp:yg n<+:l++x):yg n<+:l:=by
 rcases qwx hp with h1|⟨r,h1,hr⟩
 .exact h1
 .by_cases hr0:r=[]
  .rw[h1,hr0,Qj]
   exact Za _
  .exfalso
   obtain⟨c,q,rfl⟩:=Qu hr0
   have hc:c=37:=by
    obtain⟨t,ht⟩:=hr;rcases hx with rfl|hx
    .simp at ht
    .rw[<-ht]at hx
     simpa using hx
   subst hc;by_cases hl:l=[]
   .rw[hl]at h1
    simp[yg,genL]at h1
   .have m9:=q5n hl h
    obtain⟨q0,hq0⟩:∃q0,l=q0++[10]:=by
     have:=q2c m9;exact⟨_,this.symm⟩
    have e:genL++Lib.itoa n++10::[10]=q0++10::(37::q):=by
     have:=h1;unfold yg at this;rw[hq0]at this
     simpa using this
    have hu10:10∉genL++Lib.itoa n:=by
     intro h;rcases Qv.1 h with h|h
     .revert h;decide
     .exact qml n h
    have hA:=yj (c:=10) [10] hu10;have hB:=qad (c:=10) [10] hu10;rw[e]at hA hB;by_cases hq10:10∈q0
    .have e2:=qar hq10
     have e3:q0++10::(37::q)=upto 10 q0++10::(past 10 q0++10::(37::q)):=by
      conv=>lhs;rw[e2]
      simp
     rw[e3,qad _ (qd7 10 q0)]at hB;have:=congrArg Zf hB;simp at this;omega
    .rw[qad _ hq10]at hB
     simp at hB
theorem q6v{l x y:qa}(h:∀p∈zv l,p.2=true)(hx:yi (l++x)=(0,l++x))(hy:y=[]∨y.head?=some 37):yi (l++y)=(0,l++y):=by
 refine qw8 λn r hg e=>?_;obtain⟨t,ht⟩:=zff (n:=n) h hy ⟨r,e.symm⟩;have:yi (l++x)=(n,t++x):=by rw[<-ht,Qc,qm8 hg]
 rw[hx]at this;have h0:(0:Int)=n:=(Zw this).1;have:=hg.1;omega
theorem yb.gen0{text:qa}{b:v4}(h:yb text b):b.gen=0∨qa1 b.gen:=by
 have:=(qk5 text).2;rw[h.gen]at this;exact this
theorem yb.other{text:qa}{b:v4}(h:yb text b){bs:List (List qt)}{t:qa}(hg:∀x∈bs,qet x)(ht:(z4 t).1=2)(b9:(w9 b.gen++(b.base++(wc bs++t))).length<=120000):
  yb (w9 b.gen++(b.base++(wc bs++t))) ⟨b.gen,b.base,bs,y7 ((w9 b.gen).length+b.base.length) bs,t⟩:=by
 refine⟨rfl,?_,h.parse,hg,ht,rfl,b9⟩;rcases h.gen0 with h0|h0
 .have hgen:=h.gen
  have htext:=h.txt;have e:w9 b.gen=[]:=by unfold w9;rw[if_neg (by rw[h0];decide)]
  rw[e,Zj]at htext⊢;rw[h0,htext]at hgen;simp only;rw[h0];exact q6v (λp hp=>((qos h.parse).1 p hp).2) hgen (q7m (qvw hg ht))
 .have e:w9 b.gen=yg b.gen:=by unfold w9;rw[if_pos h0]
  simp only;rw[e,qm8 h0]
theorem q0w:z4 []=(2,[],0):=by
 unfold z4 qe8;rw[if_neg Sx,if_pos];rw[if_neg (by decide)];decide
theorem yb.noTail{text:qa}{b:v4}(h:yb text b):yb (js b) {b with tail:=[]}:=by
 have hl:=h.len;rw[h.split]at hl
 have:=h.other (bs:=b.batches) (t:=[]) h.good (by rw[q0w]) (by
  simp[js]at hl⊢
  omega)
 rw[<-h.ends]at this;have e:w9 b.gen++(b.base++(wc b.batches++[]))=js b:=by simp[js]
 rw[e]at this;exact this
theorem yb.more{text:qa}{b:v4}(h:yb text b){x:List qt}(hx:qet x)(hl:(js b++recE x).length<=120000):yb (js b++recE x) {b with batches:=b.batches++[x],ends:=b.ends++[ka b+(recE x).length],tail:=[]}:=by
 have e:w9 b.gen++(b.base++(wc (b.batches++[x])++[]))=js b++recE x:=by simp[js,q6l]
 have:=h.other (bs:=b.batches++[x]) (t:=[]) (λy hy=>by
  rcases Qv.1 hy with hy|hy
  .exact h.good y hy
  .obtain rfl:=Qw.1 hy
   exact hx) (by rw[q0w]) (by rw[e];exact hl)
 rw[e,qs8,<-h.ends]at this
 have hw:((w9 b.gen).length+b.base.length+(wc b.batches).length+(recE x).length:Int)=ka b+(recE x).length:=by
  rw[h.whole];simp[js];omega
 rw[hw]at this;exact this
def appF(text:qa)(x:List qt):ErrV×qa:=
 match(ko text).1 with
 |.no=>match eErr x with
  |.no=>if 50000<(encF x).length then(.num 11,[])else if 120000<ka (ko text).2+(recE x).length then(.num 11,[])else(.no,text.take (ka (ko text).2).toNat++recE x)
  |e=>(e,[])
 |e=>(e,[])
end Go.Pl
namespace Go.Proofs.YthnbabbhpeebbaaGreatDoor
open Go Go.Av Go.RowKit Go.Proofs Go.Pl
theorem qmi(n:Int)(st:List AObj)(h:qa1 n):qm E 117 [Iv n] st λr st'=>r=.tu [Sv (yg n),.v .nilIface]∧st'=st:=by
 have h1:=h.1;have h2:=h.2;have hl:=qog (v:=n) Om Om;have hit:=λst=>qof n st Om Om;refine ja [.i n] (vz (qw _) (qw _)) Tryz.func117 rfl rfl (λ_=>rfl) rfl λS0=>?_;apply qd [];repeat' (first|apply Qa|(intro h;try exact cDd)|exact⟨Tryz.call153⟩|refine cpe hit ?_|exact cSd|apply qb []|refine exr ?_|refine qf ?_)
 all_goals first|(simp;omega)|(simp[yg,genL];done)
theorem qzr(n:Int)(st:List AObj)(h:¬qa1 n):qm E 117 [Iv n] st λr st'=>r=.tu [Sv [],.ifc 43 (Iv 1)]∧st'=st:=by
 refine ja [.i n] (vz (qw _) (qcu (qw _))) Tryz.func117 rfl rfl (λ_=>rfl) rfl λS0=>?_;unfold qa1 at h;apply qd [];repeat' (first|apply Qa|(intro h;try exact cDd)|exact cSd|apply qb []|refine exr ?_|refine qf ?_)
theorem zhr(n:Int)(st:List AObj):qm E 85 [Iv n] st λr st'=>r=Iv ((w9 n).length:Nat)∧st'=st:=by
 refine ja [.i n] (qw _) Tryz.func85 rfl rfl (λ_=>rfl) rfl λS0=>?_;by_cases hg:qa1 n
 .have e:w9 n=yg n:=by unfold w9;rw[if_pos hg]
  have hln:=λst=>qmi n st hg;rw[e];apply qd [];repeat' (first|apply Qa|(intro h;try exact cDd)|exact⟨Tryz.call117⟩|refine cpe hln ?_|exact cSd|apply qb []|refine exr ?_|refine qf ?_)
 .have e:w9 n=[]:=by unfold w9;rw[if_neg hg]
  have hln:=λst=>qzr n st hg;rw[e];apply qd [];repeat' (first|apply Qa|(intro h;try exact cDd)|exact⟨Tryz.call117⟩|refine cpe hln ?_|exact cSd|apply qb []|refine exr ?_|refine qf ?_)
theorem zam(l:qa)(st:List AObj):qm E 148 [Sv (genL++l),Sv [35,37,103,101,110,32]] st λr st'=>r=Sv l∧st'=st:=by
 have:=qj0 (genL++l) [35,37,103,101,110,32] st;rw[qc3 (show [35,37,103,101,110,32]<+:genL++l from Zq genL l)]at this;have e:(genL++l).drop ([35,37,103,101,110,32]:qa).length=l:=by rw[show([35,37,103,101,110,32]:qa).length=genL.length by rfl,Qe]
 rw[e]at this;exact this
set_option maxHeartbeats 2000000 in
theorem zfg(text:qa)(st:List AObj)(hl:text.length<1000000):qm E 113 [Sv text] st λr st'=>r=.tu [Iv (yi text).1,Sv (yi text).2]∧st'=st:=by
 refine ze (vz (qw _) (qw _)) (qq Tryz.func113 rfl (Qi rfl) ?_);rcases qqp text with⟨n,r,hg,he,ht⟩|⟨hno,ht⟩
 .rw[ht]
  have hn10:10∉genL++Lib.itoa n:=λh=>by
   rcases Qv.1 h with h|h
   .revert h;decide
   .exact qml n h
  have hcut:∀st,qm E 146 [Sv text,Sv [10,10]] st λx st'=>x=.tu [Sv (genL++Lib.itoa n),Sv r,Bv true]∧st'=st:=λst=>by
   have:=qsx text [10,10] st Om;rw[he,qmn,<-Qc,zhd r hn10]at this;rw[he,qmn,<-Qc];exact this
  have hb:=qog (v:=n) (by have:=hg.1;omega) (by have:=hg.2;omega);have hgl:genL.length=6:=rfl;have gc:=ql1 (v:=n) (by have:=hg.1;omega) (by have:=hg.2;omega);repeat' (first|apply qp|apply qi|apply qh|apply ql|apply qj|(apply zk;exact rfl;exact rfl)|(apply qk;exact Tryz.call146;exact hcut _)|(apply qk;exact Tryz.call148;exact zam _ _))
  refine qfe Tryz.call147 ((qnx (Lib.itoa n) _ Om).mono ?_);rintro _ _ ⟨rfl,n',x,rfl,hx⟩;rcases x with _|⟨t',y⟩
  .simp only at hx
   rw[gc]at hx;have e:n=n':=by simpa using hx
   subst e
   show AOps _ _ _ _ _ _ _
   have hs:yg n=(genL++Lib.itoa n)++[10,10]:=rfl;have hs2:¬yg n≠(genL++Lib.itoa n)++[10,10]:=λh=>h hs;repeat' (first|apply qp|apply qi|apply qh|apply ql|apply qj|(apply zk;exact rfl;exact rfl)|(apply j5;(iterate 3 exact rfl))|(apply j6;exact rfl)|(apply zn;(iterate 4 exact rfl))|(apply qbk;exact cRa)|(apply qgm;exact cRa)|(apply qn;exact rfl;apply qg8;exact cRa)|(apply qn;exact rfl;apply pk_f;exact cRa)|(apply qe;exact rfl;apply yw;exact cAo)|(apply vb;exact rfl;exact rfl;exact cOs)|(apply vp;exact rfl;exact rfl)|apply za|apply q7|(apply qk;exact Tryz.call117;exact qmi _ _ hg))
   exact qo rfl (wz rfl) ⟨rfl,_,rfl⟩
  .exact absurd gc (hx n)
 .rw[ht]
  have hfst:=qsy text [10,10];have hct:=λh=>zbg (l:=text) (m:=[10,10]) h;have htr:=qe2 (Lib.cut text [10,10]).1 [35,37,103,101,110,32];have hcc:=λst=>qsx text [10,10] st Om;generalize Lib.cut text [10,10]=c at hfst hct htr hcc;obtain⟨a,b,d⟩:=c;simp only at hfst hct htr hcc;repeat' (first|apply qp|apply qi|apply qh|apply ql|apply qj|(apply zk;exact rfl;exact rfl)|(apply qk;exact Tryz.call146;exact hcc _)|(apply qk;exact Tryz.call148;exact qj0 _ _ _))
  refine qfe Tryz.call147 ((qnx (Lib.trimPrefix a [35,37,103,101,110,32]) _ Om).mono ?_);rintro _ _ ⟨rfl,n,x,rfl,hx⟩
  show AOps _ _ _ _ _ _ _
  have gf:¬(d=true∧qa1 n∧yg n=a++[10,10]):=λ⟨h1,h2,h3⟩=>by
   refine hno n b h2 ?_;rw[h3];exact hct h1
  by_cases hg:qa1 n
  .have hll:=qwm hg
   cases d with
   |false=>
    rcases x with _|⟨t',y⟩
    all_goals
     repeat' (first|apply qp|apply qi|apply qh|apply ql|apply qj|(apply zk;exact rfl;exact rfl)|(apply j6;exact rfl)|(apply zn;(iterate 4 exact rfl))|(apply qcr;exact cRa)|(apply qbl;exact cRa)|(apply qn;exact rfl;apply qko;exact cRa)|(apply qn;exact rfl;apply pk_t;exact cRa)|(apply qe;exact rfl;apply cd_t;exact cRa)|apply q7|(apply qk;exact Tryz.call117;exact qmi _ _ hg))
     exact qo rfl (wz rfl) ⟨rfl,_,rfl⟩
   |true=>
    have d7:yg n≠a++[10,10]:=λh=>gf ⟨rfl,hg,h⟩;rcases x with _|⟨t',y⟩
    all_goals
     repeat' (first|apply qp|apply qi|apply qh|apply ql|apply qj|(apply zk;exact rfl;exact rfl)|(apply j5;(iterate 3 exact rfl))|(apply j6;exact rfl)|(apply zn;(iterate 4 exact rfl))|(apply qbk;exact cRa)|(apply qgm;exact cRa)|(apply qbl;exact cRa)|(apply qn;exact rfl;apply qg8;exact cRa)|(apply qn;exact rfl;apply pk_t;exact cRa)|(apply qn;exact rfl;apply pk_f;exact cRa)|(apply qe;exact rfl;apply y5;exact cAo)|(apply qe;exact rfl;apply cd_t;exact cRa)|(apply vb;exact rfl;exact rfl;exact cOs)|(apply wq;exact rfl;exact rfl)|(apply vp;exact rfl;exact rfl)|apply q7|(apply qk;exact Tryz.call117;exact qmi _ _ hg))
     exact qo rfl (wz rfl) ⟨rfl,_,rfl⟩
  .cases d
   all_goals
    rcases x with _|⟨t',y⟩
    all_goals
     repeat' (first|apply qp|apply qi|apply qh|apply ql|apply qj|(apply zk;exact rfl;exact rfl)|(apply j6;exact rfl)|(apply zn;(iterate 4 exact rfl))|(apply qbk;exact cRa)|(apply qcr;exact cRa)|(apply qgm;exact cRa)|(apply qbl;exact cRa)|(apply qn;exact rfl;apply qko;exact cRa)|(apply qn;exact rfl;apply qg8;exact cRa)|(apply qn;exact rfl;apply pk_t;exact cRa)|(apply qn;exact rfl;apply pk_f;exact cRa)|(apply qe;exact rfl;apply cd_t;exact cRa)|(apply wq;exact rfl;exact rfl)|(apply vp;exact rfl;exact rfl)|apply q7|(apply qk;exact Tryz.call117;exact qzr _ _ hg))
     exact qo rfl (wz rfl) ⟨rfl,_,rfl⟩
def zd8(L:List LnV)(i:Nat)(x:LnV):List qa:=x.text::wu ((L.drop (i+1)).map q58)
theorem qz7:∀(r:List (qa×Bool)),(wu r).length<=r.length
 | []=>by simp[wu]
 |(t,e)::r=>by
  have:=qz7 r;rw[wu];split <;>simp <;>omega
theorem qz8:∀{r:List (qa×Bool)}{n:Nat},(∀p∈r,p.1.length<=n)->∀s∈wu r,s.length<=n
 | [],_,_,s,hs=>by simp[wu]at hs
 |(t,e)::r,n,h,s,hs=>by
  rw[wu]at hs;split at hs
  .rcases Qf.1 hs with rfl|hs
   .exact h (s,e) Sx
   .exact qz8 (λp hp=>h p (by simp[hp])) s hs
  .simp at hs
structure LnsB (L:List LnV):Prop where
 len:L.length<100000
 val:∀x∈L,x.text.length<100000
theorem LnsB.said{L:List LnV}(h:LnsB L){i:Nat}{x:LnV}(hx:L[i]?=some x):LsB (zd8 L i x):=by
 have h1:=qz7 ((L.drop (i+1)).map q58);have h2:=h.len;have h3:=h.val x (List.mem_of_getElem? hx);refine⟨?_,λs hs=>?_⟩
 .unfold zd8
  simp at h1⊢;omega
 .rcases Qf.1 hs with rfl|hs
  .omega
  .have:=qz8 (n:=100000) (λp hp=>by
    obtain⟨y,hy,rfl⟩:=Qx.1 hp;have:=h.val y (Zm hy);simp only[q58]
    omega) s hs
   omega
end Go.Proofs.YthnbabbhpeebbaaGreatDoor
namespace Go.Pl
open Go Go.Proofs Go.Proofs.YthnbabbhpeebbaaGreatDoor
theorem q6f(l:qa):(z4 l).1=1∨(z4 l).1=2∨(z4 l).1=3:=by
 unfold z4;split
 .split
  .split
   .unfold qd9
    split <;>simp
   .split
    .unfold qa6
     split
     .simp
     .split <;>simp
    .simp
  .simp
 .split <;>simp
theorem q9v{l:qa}(h1:(z4 l).1=1):∃k:Nat,(z4 l).2.2=(k:Int)∧0<k∧k<=l.length:=by
 obtain⟨_,m,hm,hn⟩:=qt1 (show z4 l=(1,(z4 l).2.1,(z4 l).2.2)by rw[<-h1]);refine⟨_,hn,?_,?_⟩
 .rw[qln]
  simp[recL,xc,z6]
 .have:=congrArg Zf hm
  rw[Qd]at this;omega
theorem qxt{l:qa}:(z4 l).2.1.length<=l.length:=by
 have hp:=ku 10 l;unfold z4;split
 .split
  .split
   .simp
   .split
    .unfold qa6
     split
     .simp
     .split
      .simp;omega
      .simp
    .simp
  .simp
 .split <;>simp
theorem qyr(l:qa):ki l.length l<=l.length:=(qny _ _ _ (Qn _) (Qn _)).2
theorem q6k{f:Nat}{l:qa}{a:Int}{bs:List (List qt)}{es:List Int}(h:(z4 l).1=2):recsF (f+1) l a bs es=(false,bs,es,l):=by
 rw[recsF,if_pos h]
theorem q9z{f:Nat}{l:qa}{a:Int}{bs:List (List qt)}{es:List Int}(h:(z4 l).1=3):recsF (f+1) l a bs es=(true,bs,es,l):=by
 rw[recsF,if_neg (by rw[h];decide),if_neg (by rw[h];decide)]
theorem q9y{f:Nat}{l:qa}{a:Int}{bs:List (List qt)}{es:List Int}(h:(z4 l).1=1)(hd:decF (z4 l).2.1=none):recsF (f+1) l a bs es=(true,bs,es,l):=by
 rw[recsF,if_neg (by rw[h];decide),if_pos h,hd]
theorem q6j{f k:Nat}{l:qa}{a:Int}{bs:List (List qt)}{es:List Int}{b:List qt}(h:(z4 l).1=1)(hd:decF (z4 l).2.1=some b)(hk:(z4 l).2.2=(k:Int)):recsF (f+1) l a bs es=recsF f (l.drop k) (a+k) (bs++[b]) (es++[a+k]):=by
 rw[recsF,if_neg (by rw[h];decide),if_pos h,hd,hk];rfl
end Go.Pl
namespace Go.Proofs.YthnbabbhpeebbaaGreatDoor
open Go Go.Av Go.RowKit Go.Proofs Go.Pl
@[reducible] def qa2 (es : List Int) : AV := .sl 1 (es.map fun x => Iv x) none
@[reducible] def qe3 (bs : List (List qt)) : AV := .sl 1 (bs.map jz) none
@[reducible] def qcm (b : v4) : AV := .ag [Iv b.gen, Sv b.base, qe3 b.batches, qa2 b.ends, Sv b.tail]
theorem zg7(l:qa)(b:Bool)(st:List AObj)(hl:l.length<4294967281)(h:begF l=b):qm E 149 [Sv l] st λr st'=>r=Bv b∧st'=st:=by
 subst h;exact za8 l st hl
theorem za7(text:qa)(st:List AObj)(hl:text.length<1000000):qm E 114 [Sv text] st λr st'=>r=Iv ((ki text.length text:Nat):Int)∧st'=st:=by
 refine ja [.s text] (qw _) Tryz.func114 rfl rfl (λ_=>rfl) rfl λS0=>?_;apply qd [];repeat' (first|apply Qa|(intro h;try exact cDd)|exact⟨Tryz.call143⟩|(refine Qb _ ⟨qm7 _,?_⟩)|exact cSd|apply qb []|refine exr ?_|refine qf ?_)
 refine qgt (X:=Int) text 1 2 [0,1] (λr=>⟨[(0,.s text),(2,.bx 0 0),(5,.fn (.func 183) [] [.bx 1 0])],[(0,some (.cells 3 [.i r])),(1,some (.cells 9 [.s text]))],2⟩) _
  (λk rest r=>r=0∧rest.length<=text.length∧ki text.length text=ki text.length rest) (λc r=>c=.ret∧r=((ki text.length text:Nat):Int)) 0 ⟨rfl,Om,rfl⟩ ?_ id Om (λ_=>rfl) rfl (λ_=>rfl) (λ_=>rfl) rfl ?_ ?_ ?_
 .skip
  repeat' (first|apply Qa|(intro h;try exact cDd)|exact cSd|apply qb []|refine exr ?_|refine qf ?_)
 .rintro k rest r ⟨rfl,hrl,hbeg⟩ d7 d8
  have hu:=vd 10 rest;have gm:=ku 10 rest;have hbg:=λst=>zg7 (upto 10 rest) _ st Om rfl;unfold qmo;by_cases hb:begF (upto 10 rest)=true
  .rw[hb]at hbg
   have hv:((text.length:Int)-rest.length)=((ki text.length text:Nat):Int):=by
    rw[hbeg,ql4 d7 hb];omega
   refine RA.mk λS F ρ rd=>?_;apply qd [];repeat' (first|apply Qa|(intro h;try exact cDd)|(refine RB.mk λS rd=>?_;apply qd [])|exact⟨Tryz.call149⟩|refine cpe hbg ?_|(refine Qb _ ⟨⟨rfl,hv⟩,?_⟩)|exact cSd|apply qb []|refine exr ?_|refine qf ?_)
  .have lx:begF (upto 10 rest)=false:=by simpa using hb
   rw[lx]at hbg;refine RA.mk λS F ρ rd=>?_;apply qd [];repeat' (first|apply Qa|(intro h;try exact cDd)|(refine RB.mk λS rd=>?_;apply qd [])|exact⟨Tryz.call149⟩|refine cpe hbg ?_|(refine Qb 0 ⟨⟨rfl,Om,by rw[hbeg,qnz d7 (by rw[lx];decide)]⟩,?_⟩)|exact cSd|apply qb []|refine exr ?_|refine qf ?_)
 .rintro k r ⟨rfl,hrl,hbeg⟩
  rw[qfx]at hbeg;rw[hbeg];repeat' (first|apply Qa|(intro h;try exact cDd)|exact cSd|apply qb []|refine exr ?_|refine qf ?_)
 .rintro c r ⟨rfl,rfl⟩
  repeat' (first|apply Qa|(intro h;try exact cDd)|exact cSd|apply qb []|refine exr ?_|refine qf ?_)
theorem qm1{a b c:AV}(h1:Pure a)(h2:Pure b)(h3:Pure c):Pure (.tu [a,b,c]):=qfl λz hz=>by
 simp only[Qf,Qm,or_false]at hz;rcases hz with rfl|rfl|rfl
 .exact h1
 .exact h2
 .exact h3
theorem qzc(b:List qt):qlv (jz b):=λy hy=>by
 simp only[AV.cells,Qf,Qm,or_false]at hy;subst hy;exact qkz _
theorem qxm(bs:List (List qt)):Pure (qe3 bs):=qc9 λx hx=>by
 obtain⟨b,_,rfl⟩:=Qx.1 hx;exact qzc b
theorem qf1(es:List Int):Pure (qa2 es):=qc9 λx hx=>by
 obtain⟨b,_,rfl⟩:=Qx.1 hx;intro y hy;simp only[AV.cells,Qf,Qm,or_false]at hy;subst hy;exact qw _
theorem ql5(b:v4):Pure (qcm b):=qpo λx hx=>by
 simp only[Qf,Qm,or_false]at hx;rcases hx with rfl|rfl|rfl|rfl|rfl
 .exact qw _
 .exact qw _
 .exact qxm _
 .exact qf1 _
 .exact qw _
def qn1(x:ErrV×v4):AV:=.tu [qcm x.2,errA x.1]
theorem q16(x:ErrV×v4):Pure (qn1 x):=vz (ql5 _) (vu _)
theorem q2w(text:qa)(st:List AObj)(hl:60000<text.length)(h2:text.length<1000000):qm E 111 [Sv text] st λr st'=>r=.tu [qc1 [],errA (.num 1)]∧st'=st:=by
 refine ja [.s text] (vz (qqi _) (vu _)) Tryz.func111 rfl rfl (λ_=>rfl) rfl λS0=>?_;apply qd [];repeat' (first|apply Qa|(intro h;try exact cDd)|exact cSd|apply qb []|refine exr ?_|refine qf ?_)
def itsE(text:qa):List jc:=if 60000<text.length then []else(kr text).2
theorem qw6(text:qa)(st:List AObj)(hl:text.length<1000000):qm E 111 [Sv text] st λr st'=>r=.tu [qc1 (itsE text),errA (qbn text)]∧st'=st:=by
 unfold qbn itsE;by_cases hb:60000<text.length
 .rw[if_pos hb,if_pos hb]
  exact q2w text st hb hl
 .rw[if_neg hb,if_neg hb]
  have:=qrv text st Om;unfold qdt at this;rcases hp:(kr text).1 with _|⟨x,y⟩
  .rw[hp]at this
   exact this
  .rw[hp]at this
   exact this
theorem qyu(gen:Int)(base text:qa)(a:Nat)(hl:text.length<1000000)(ha:a<=text.length)(r:SV)(p8:List (Nat×Option SR))(nx1:Nat)(R:Bool×List (List qt)×List Int×qa)(hR:Go.Pl.recsF (text.length+1) (text.drop a) a [] []=R)
  (hok:R.1=false->r=.a (.v .nilIface)∧p8=[(0,some (.cells 77 [.i gen,.s base,.tp 1,.tp 2,.s R.2.2.2])),(1,some (.tip 1 50 (R.2.1.map jz))),(2,some (.tip 1 3 (R.2.2.1.map λx=>Iv x)))]∧nx1=3)
  (gf:R.1=true->r=.a (errA (.at' R.2.1.length 10))∧p8=[]∧nx1=1):qz E 115 [.bx 0 0,.s text,.i a] 1 (hpF [(0,some (.cells 77 [.i gen,.s base,.a zf,.a zf,.s []]))]) ⟨r,q8 [(0,some (.cells 77 [.i gen,.s base,.a zf,.a zf,.s []]))],p8++q9 [(0,some (.cells 77 [.i gen,.s base,.a zf,.a zf,.s []]))],nx1⟩:=by
 refine je [.bx 0 0,.s text,.i a] [(0,some (.cells 77 [.i gen,.s base,.a zf,.a zf,.s []]))] 1 r p8 nx1 Tryz.func115 rfl rfl rfl ?_ λS F ρ=>?_
 .cases h:R.1 with
  |false=>obtain⟨rfl,rfl,rfl⟩:=hok h;rfl
  |true=>obtain⟨rfl,rfl,rfl⟩:=gf h;rfl
 apply qd [];repeat' (first|apply Qa|(intro h;try exact cDd)|exact cSd|apply qb []|refine exr ?_|refine qf ?_)
 refine xx (X:=Nat×Nat×List (List qt)×List Int) (λ(k,f,bs,es)=>⟨[(0,.bx 0 0),(1,.s text),(2,.i k)],[(0,some (.cells 77 [.i gen,.s base,.tp 1,.tp 2,.s []])),(1,some (.tip 1 50 (bs.map jz))),(2,some (.tip 1 3 (es.map λx=>Iv x)))],3⟩)
  (λ(k,f,bs,es)=>k<=text.length∧text.length-k<f∧Go.Pl.recsF f (text.drop k) k bs es=R∧bs.length<=k∧es.length<=k) (λx=>text.length-x.1) (a,text.length+1,[],[]) ⟨ha,Om,hR,Sx,Sx⟩ ?_ ?_
 .skip
  repeat' (first|apply Qa|(intro h;try exact cDd)|exact cSd|apply qb []|refine exr ?_|refine qf ?_)
 .rintro⟨k,f,bs,es⟩ ⟨hk,hf,hR,tg,mw⟩
  obtain⟨f,rfl⟩:∃f',f=f'+1:=⟨f-1,Om⟩;have gn:=λst=>zie (text.drop k) st So;have hll:(text.drop k).length=text.length-k:=Sx
  have hbd:=qxt (l:=text.drop k);have hde:=λst=>zbj (z4 (text.drop k)).2.1 st Om;rcases q6f (text.drop k)with h1|h2|h3
  .rw[h1]at gn
   obtain⟨n',sf,hn0',hnl⟩:=q9v h1
   cases tq:decF (z4 (text.drop k)).2.1 with
   |none=>
    rw[q9y h1 tq]at hR;rw[tq]at hde;subst hR;obtain⟨rfl,rfl,rfl⟩:=gf rfl;apply qd [];repeat' (first|apply Qa|(intro h;try exact cDd)|exact⟨Tryz.call150⟩|refine cpe gn ?_|exact⟨Tryz.call151⟩|refine cpe hde ?_|exact cSd|apply qb []|refine exr ?_|refine qf ?_)
    rw[Qk]
    rfl
   |some b=>
    rw[q6j h1 tq sf]at hR;rw[tq]at hde;rw[sf]at gn;apply qd [];repeat' (first|apply Qa|(intro h;try exact cDd)|exact⟨Tryz.call150⟩|refine cpe gn ?_|exact⟨Tryz.call151⟩|refine cpe hde ?_|(refine Qb (k+n',f,bs++[b],es++[((k+n':Nat):Int)]) ⟨?_,by simp only;omega,?_⟩)|exact cSd|apply qb []|refine exr ?_|refine qf ?_)
    all_goals first|(rw[<-hR,Int.natCast_add,Qs];done)|(simp;done)
  .rw[h2]at gn
   rw[q6k h2]at hR;subst hR;obtain⟨rfl,rfl,rfl⟩:=hok rfl
   cases tq:decF (z4 (text.drop k)).2.1<;>rw[tq]at hde
   all_goals
    apply qd [];repeat' (first|apply Qa|(intro h;try exact cDd)|exact⟨Tryz.call150⟩|refine cpe gn ?_|exact⟨Tryz.call151⟩|refine cpe hde ?_|exact cSd|apply qb []|refine exr ?_|refine qf ?_)
  .rw[h3]at gn
   rw[q9z h3]at hR;subst hR;obtain⟨rfl,rfl,rfl⟩:=gf rfl
   cases tq:decF (z4 (text.drop k)).2.1<;>rw[tq]at hde
   all_goals
    apply qd [];repeat' (first|apply Qa|(intro h;try exact cDd)|exact⟨Tryz.call150⟩|refine cpe gn ?_|exact⟨Tryz.call151⟩|refine cpe hde ?_|exact cSd|apply qb []|refine exr ?_|refine qf ?_)
   all_goals
    rw[Qk];rfl
theorem q3b(text:qa)(st:List AObj)(hl:text.length<1000000):qm E 81 [Sv text] st λr st'=>r=qn1 (ko text)∧st'=st:=by
 refine ja [.s text] (q16 _) Tryz.func81 rfl rfl (λ_=>rfl) rfl λS0=>?_;by_cases hbig:120000<text.length
 .have e:ko text=(.num 1,qg4):=if_pos hbig
  rw[e];apply qd [];repeat' (first|apply Qa|(intro h;try exact cDd)|exact cSd|apply qb []|refine exr ?_|refine qf ?_)
 have s6:=qk5 text
 have hrl:(yi text).2.length<=text.length:=by
  conv=>rhs;rw[s6.1]
  simp
 have tg:=qyr (yi text).2;obtain⟨g,rest,gz⟩:∃g rest,yi text=(g,rest):=⟨_,_,rfl⟩
 have hF:ko text=match qbn (rest.take (ki rest.length rest))with
   |.no=>if(Go.Pl.recsF (text.length+1) (rest.drop (ki rest.length rest)) (((text.length-rest.length+ki rest.length rest:Nat)):Int) [] []).1=true then(.at' (Go.Pl.recsF (text.length+1) (rest.drop (ki rest.length rest)) (((text.length-rest.length+ki rest.length rest:Nat)):Int) [] []).2.1.length 10,qg4)
    else(.no,⟨g,rest.take (ki rest.length rest),(Go.Pl.recsF (text.length+1) (rest.drop (ki rest.length rest)) (((text.length-rest.length+ki rest.length rest:Nat)):Int) [] []).2.1,(Go.Pl.recsF (text.length+1) (rest.drop (ki rest.length rest)) (((text.length-rest.length+ki rest.length rest:Nat)):Int) [] []).2.2.1,(Go.Pl.recsF (text.length+1) (rest.drop (ki rest.length rest)) (((text.length-rest.length+ki rest.length rest:Nat)):Int) [] []).2.2.2⟩)
   |e=>(e,qg4):=by
  unfold ko;rw[if_neg hbig];unfold qdf qig atH qb2;rw[gz]
  try rfl
 have htk2:∀st,qm E 113 [Sv text] st λr st'=>r=.tu [Iv g,Sv rest]∧st'=st:=λst=>by
  have:=zfg text st hl;rw[gz]at this;exact this
 rw[gz]at hrl tg s6;simp only at hrl tg s6
 have hdr:rest.drop (ki rest.length rest)=text.drop (text.length-rest.length+ki rest.length rest):=by
  have h1:text.length=(w9 g).length+rest.length:=by
   have:=congrArg Zf s6.1
   simpa using this
  conv=>rhs;rhs;rw[s6.1]
  rw[<-Qs,show text.length-rest.length=(w9 g).length by omega,Qe]
 rw[hdr]at hF;clear hdr s6 gz;have hbg:=λst=>za7 rest st Om;generalize ki rest.length rest=a at hF tg hbg;have pq:=λst=>qw6 (rest.take a) st So;have hsub:((text.length:Int)-(rest.length:Int))+(a:Int)=((text.length-rest.length+a:Nat):Int):=Om
 rw[show(((text.length-rest.length+a:Nat)):Int)=(((text.length-rest.length+a:Nat)):Int) from rfl]at hF;obtain⟨R,hR⟩:∃R,Go.Pl.recsF (text.length+1) (text.drop (text.length-rest.length+a)) ((text.length-rest.length+a:Nat):Int) [] []=R:=⟨_,rfl⟩;rw[hR]at hF;have hok:=λh=>qyu g (rest.take a) text (text.length-rest.length+a) hl Om (.a (.v .nilIface)) [(0,some (.cells 77 [.i g,.s (rest.take a),.tp 1,.tp 2,.s R.2.2.2])),(1,some (.tip 1 50 (R.2.1.map jz))),(2,some (.tip 1 3 (R.2.2.1.map λx=>Iv x)))] 3 R hR (λ_=>⟨rfl,rfl,rfl⟩) h;have gf:=λh=>qyu g (rest.take a) text (text.length-rest.length+a) hl Om (.a (errA (.at' R.2.1.length 10))) [] 1 R hR h (λ_=>⟨rfl,rfl,rfl⟩);generalize itsE (rest.take a)=its at pq
 cases o6:qbn (rest.take a)with
 |no=>
  rw[o6]at hF pq;simp only at hF;by_cases hR1:R.1=true
  .rw[if_pos hR1]at hF
   rw[hF];apply qd [];repeat' (first|apply Qa|(intro h;try exact cDd)|exact⟨Tryz.call113⟩|refine cpe htk2 ?_|exact⟨Tryz.call114⟩|refine cpe hbg ?_|exact⟨Tryz.call111⟩|refine cpe pq ?_|exact⟨Tryz.call115⟩|(refine qx (gf λh=>by rw[hR1]at h;simp at h) ?_)|exact cSd|apply qb []|refine exr ?_|refine qf ?_)
   all_goals exact congrArg Iv hsub
  .rw[if_neg hR1]at hF
   rw[hF];apply qd [];repeat' (first|apply Qa|(intro h;try exact cDd)|exact⟨Tryz.call113⟩|refine cpe htk2 ?_|exact⟨Tryz.call114⟩|refine cpe hbg ?_|exact⟨Tryz.call111⟩|refine cpe pq ?_|exact⟨Tryz.call115⟩|(refine qx (hok λh=>absurd h hR1) ?_)|exact cSd|apply qb []|refine exr ?_|refine qf ?_)
   all_goals exact congrArg Iv hsub
 |num n=>
  rw[o6]at hF pq;have hF2:ko text=(.num n,qg4):=hF;rw[hF2];apply qd []
  repeat' (first|apply Qa|(intro h;try exact cDd)|exact⟨Tryz.call113⟩|refine cpe htk2 ?_|exact⟨Tryz.call114⟩|refine cpe hbg ?_|exact⟨Tryz.call111⟩|refine cpe pq ?_|exact cSd|apply qb []|refine exr ?_|refine qf ?_)
 |at' p n=>
  rw[o6]at hF pq;have hF2:ko text=(.at' p n,qg4):=hF;rw[hF2];apply qd [];repeat' (first|apply Qa|(intro h;try exact cDd)|exact⟨Tryz.call113⟩|refine cpe htk2 ?_|exact⟨Tryz.call114⟩|refine cpe hbg ?_|exact⟨Tryz.call111⟩|refine cpe pq ?_|exact cSd|apply qb []|refine exr ?_|refine qf ?_)
theorem zb6(n:Int):(w9 n).length<=100:=by
 unfold w9;split
 .rename_i h
  have:=qwm h;omega
 .simp
theorem qyw(b:v4)(st:List AObj)(hb:b.base.length<1000000)(he:b.ends.length<1000000):qm E 41 [qcm b] st λr st'=>r=Iv (ka b)∧st'=st:=by
 have hh:=zb6 b.gen;have d8:=λst=>zhr b.gen st;refine ja [.a (qcm b)] (qw _) Tryz.func41 rfl rfl (λ_=>rfl) rfl λS0=>?_;by_cases h0:b.ends=[]
 .have e:ka b=((w9 b.gen).length:Int)+(b.base.length:Int):=by simp[ka,h0]
  rw[e];have pk:(b.ends.map λx=>Iv x).length=0:=by simp[h0]
  apply qd [];repeat' (first|apply Qa|(intro h;try exact cDd)|exact⟨Tryz.call85⟩|refine cpe d8 ?_|exact cSd|apply qb []|refine exr ?_|refine qf ?_)
 .obtain⟨x,hx⟩:∃x,b.ends.getLast?=some x:=by
   cases h:b.ends.getLast? with
   |none=>exact absurd (List.getLast?_eq_none_iff.1 h) h0
   |some x=>exact⟨x,rfl⟩
  have e:ka b=x:=by simp[ka,hx]
  rw[e];have pk:0<b.ends.length:=Zo.2 h0;have bf:(b.ends.map λx=>Iv x).length=b.ends.length:=Sx
  have hg:(b.ends.map λx=>Iv x)[b.ends.length-1]?=some (Iv x):=by
   rw[List.getLast?_eq_getElem?]at hx;simp[hx]
  apply qd [];repeat' (first|apply Qa|(intro h;try exact cDd)|exact⟨Tryz.call85⟩|refine cpe d8 ?_|(refine Qb (b.ends.length-1) ⟨Om,_,hg,?_⟩)|exact cSd|apply qb []|refine exr ?_|refine qf ?_)
theorem qwz:∀r:List (List qt),r.length<=(wc r).length
 | []=>by simp[wc]
 |b::r=>by
  have:=qwz r;have h1:=qrp b;rw[qan];simp;omega
structure ziv (text:qa) (b:v4):Prop where
 base:b.base.length<1000000
 tail:b.tail.length<1000000
 ends : b.ends.length < 1000000
 whole:ka b=((js b).length:Int)
 wlen:(js b).length<=text.length
 size:ka b+b.tail.length=text.length
theorem q17{text:qa}{b:v4}(h:yb text b):ziv text b:=by
 have h1:=congrArg Zf h.split;have h2:=h.len;have h3:=qwz b.batches;have h4:=h.whole;simp only[Qd,js]at h1;refine⟨Om,Om,by rw[h.ends,qja];omega,h4,by simp only[js,Qd];omega,?_⟩;rw[h4];simp only[js,Qd];omega
theorem zg6(text:qa)(x:List qt)(st:List AObj)(hl:text.length<1000000)(hB:∀y∈x,EdB y)(hx:x.length<1000000):qm E 67 [Sv text,jz x] st λr st'=>r=.tu [Sv (Go.Pl.appF text x).2,errA (Go.Pl.appF text x).1]∧st'=st:=by
 refine ja [.s text,.a (jz x)] (vz (qw _) (vu _)) Tryz.func67 rfl rfl (λ_=>rfl) rfl λS0=>?_;have gj:=λst=>q3b text st hl;unfold Go.Pl.appF;have rk:ko text=((ko text).1,(ko text).2):=rfl
 cases sb:(ko text).1 with
 |no=>
  rw[sb]at rk;have hT:=qq0 rk;have hS:=q17 hT;obtain⟨hs1,hs2,hs3,hs4,hs5,hs6⟩:=hS;rw[rk]at gj;generalize(ko text).2=b at gj hT hs1 hs2 hs3 hs4 hs5 hs6;unfold qn1 at gj;have lq:=λst=>qyw b st hs1 hs3;rw[hs4]at lq;simp only[hs4,Ql];have htl:=hT.len
  cases hee:eErr x with
  |no=>
   have mb:=λst=>qwc x st hB hee;by_cases h5:50000<(encF x).length
   .simp only[if_pos h5]
    apply qd [];repeat' (first|apply Qa|(intro h;try exact cDd)|exact⟨Tryz.call81⟩|refine cpe gj ?_|exact⟨Tryz.call103⟩|refine cpe mb ?_|exact cSd|apply qb []|refine exr ?_|refine qf ?_)
   .simp only[if_neg h5]
    have hgx:qet x:=⟨hee,hB,Om⟩;have gw:=λst=>q9x (encF x) st Om hgx.good;have hrl:=q6g hgx.good;have hre:recF (encF x)=recE x:=rfl;rw[hre]at gw hrl;by_cases h12:(120000:Int)<((js b).length:Int)+((recE x).length:Int)
    .rw[if_pos h12]
     apply qd [];repeat' (first|apply Qa|(intro h;try exact cDd)|exact⟨Tryz.call81⟩|refine cpe gj ?_|exact⟨Tryz.call103⟩|refine cpe mb ?_|exact⟨Tryz.call104⟩|refine cpe gw ?_|exact⟨Tryz.call41⟩|refine cpe lq ?_|exact cSd|apply qb []|refine exr ?_|refine qf ?_)
    .rw[if_neg h12]
     apply qd []
     repeat' (first|apply Qa|(intro h;try exact cDd)|exact⟨Tryz.call81⟩|refine cpe gj ?_|exact⟨Tryz.call103⟩|refine cpe mb ?_|exact⟨Tryz.call104⟩|refine cpe gw ?_|exact⟨Tryz.call41⟩|refine cpe lq ?_|exact cSd|apply qb []|refine exr ?_|refine qf ?_)
  |num n=>
   have mb:=λst=>qke x st _ hB Om hee (λh=>by have:=(qkd x).1 (by rw[hee];exact h);rw[hee]at this;simp at this);apply qd []
   repeat' (first|apply Qa|(intro h;try exact cDd)|exact⟨Tryz.call81⟩|refine cpe gj ?_|exact⟨Tryz.call103⟩|refine cpe mb ?_|exact cSd|apply qb []|refine exr ?_|refine qf ?_)
  |at' p n=>
   have mb:=λst=>qke x st _ hB Om hee (λh=>by have:=(qkd x).1 (by rw[hee];exact h);rw[hee]at this;simp at this);apply qd []
   repeat' (first|apply Qa|(intro h;try exact cDd)|exact⟨Tryz.call81⟩|refine cpe gj ?_|exact⟨Tryz.call103⟩|refine cpe mb ?_|exact cSd|apply qb []|refine exr ?_|refine qf ?_)
 |num n=>
  rw[sb]at rk;rw[rk]at gj;unfold qn1 at gj;apply qd []
  repeat' (first|apply Qa|(intro h;try exact cDd)|exact⟨Tryz.call81⟩|refine cpe gj ?_|exact cSd|apply qb []|refine exr ?_|refine qf ?_)
 |at' p n=>
  rw[sb]at rk;rw[rk]at gj;unfold qn1 at gj;apply qd [];repeat' (first|apply Qa|(intro h;try exact cDd)|exact⟨Tryz.call81⟩|refine cpe gj ?_|exact cSd|apply qb []|refine exr ?_|refine qf ?_)
end Go.Proofs.YthnbabbhpeebbaaGreatDoor
namespace Go.Pl
open Go Go.Proofs
structure EntV where
 x:jc
 id:Int
structure zo where
 ents:List EntV
 next:Int
 many:Int
def qds(l:zo)(x:jc):zo:=if x.kind=3 then⟨l.ents++[⟨x,l.next⟩],l.next+1,l.many+1⟩else⟨l.ents++[⟨x,0⟩],l.next,l.many⟩
def ofF(its:List jc):zo:=its.foldl qds ⟨[],1,0⟩
end Go.Pl
namespace Go.Proofs.YthnbabbhpeebbaaGreatDoor
open Go Go.Av Go.RowKit Go.Proofs Go.Pl
@[reducible] def entA (e : EntV) : AV := .ag [Iv e.x.kind, Sv e.x.raw, wn e.x.fields, Iv e.id]
@[reducible] def qb1 (l : zo) : AV := .pp [.sl 4 (l.ents.map entA) none, Iv l.next, Iv l.many]
def qto(e:ErrV)(l:zo):AV:=match e with
 |.no=>.tu [qb1 l,errA .no]
 |e=>.tu [.v (.pointer none),errA e]
theorem q5g(e:EntV):qlv (entA e):=λy hy=>by
 simp only[AV.cells,Qf,Qm,or_false]at hy;rcases hy with rfl|rfl|rfl|rfl
 .exact qw _
 .exact qw _
 .exact qd1 _
 .exact qw _
theorem qip(l:zo):Pure (qb1 l):=qve λx hx=>by
 simp only[Qf,Qm,or_false]at hx;rcases hx with rfl|rfl|rfl
 .exact qc9 λx hx=>by
   obtain⟨f,_,rfl⟩:=Qx.1 hx;exact q5g f
 .exact qw _
 .exact qw _
theorem qk2(e:ErrV)(l:zo):Pure (qto e l):=by
 cases e with
 |no=>exact vz (qip l) (vu _)
 |num n=>exact vz (qw _) (vu _)
 |at' a n=>exact vz (qw _) (vu _)
theorem qiw:∀(n:Nat)(rest:qa)(k:Nat)(p:PSt),rest.length<=n->PB (4*k) p->k+rest.length<=60000->(runL k (zv rest) p).2.items.length<=300000:=by
 have nil:∀(k:Nat)(p:PSt),PB (4*k) p->k<=60000->(runL k (zv []) p).2.items.length<=300000:=λk p hB hk=>by
  have e:jk p 0 [] true 1=endP p:=rfl;have h:=qj3 (no:=0) (text:=[]) (ended:=true) (kind:=1) hB Om Sx;rw[e]at h;have e2:runL k (zv []) p=endP p:=by rw[wi];rfl
  rw[e2];have:=h.items;omega
 intro n
 induction n with
 |zero=>
  intro rest k p hr hB hk;obtain rfl:rest=[]:=List.eq_nil_of_length_eq_zero Om
  exact nil k p hB (by simpa using hk)
 |succ n ih=>
  intro rest k p hr hB hk;by_cases d7:rest=[]
  .subst d7
   exact nil k p hB (by simpa using hk)
  .have hu:=vd 10 rest
   have gm:=ku 10 rest;have hr0:0<rest.length:=Zo.2 d7;rw[wr d7];simp only[runL];have ng:=qrx (no:=k) (text:=upto 10 rest) (ended:=decide (10∈rest)) hB Om Om;split
   .have:=hB.items
    simp only;omega
   .exact ih (past 10 rest) (k+1) _ Om ng Om
theorem qz1(text:qa):(itsE text).length<=300000:=by
 unfold itsE;split
 .simp
 .have h:=qiw text.length text 0 p0 (Qn _) q57 Om
  unfold kr;split
  .simp
  .exact h
theorem zce(text:qa)(st:List AObj)(hl:text.length<1000000):qm E 202 [Sv text] st λr st'=>r=qto (qbn text) (ofF (itsE text))∧st'=st:=by
 refine qrn [.s text] (qk2 _ _) Tryz.func202 rfl rfl (λ_=>rfl) rfl λS0=>?_;have hp:=λst=>qw6 text st hl;have hil:=qz1 text;generalize itsE text=its at hp hil
 cases he:qbn text with
 |num n=>
  rw[he]at hp;apply qd [19]
  repeat' (first|apply Qa|(intro h;try exact cDd)|exact⟨Tryz.call111⟩|refine cpe hp ?_|exact cSd|apply qb [19]|refine exr ?_|refine qf ?_)
 |at' a n=>
  rw[he]at hp;apply qd [19]
  repeat' (first|apply Qa|(intro h;try exact cDd)|exact⟨Tryz.call111⟩|refine cpe hp ?_|exact cSd|apply qb [19]|refine exr ?_|refine qf ?_)
 |no=>
  rw[he]at hp;apply qd [19];repeat' (first|apply Qa|(intro h;try exact cDd)|exact⟨Tryz.call111⟩|refine cpe hp ?_|exact cSd|apply qb [19]|refine exr ?_|refine qf ?_)
  refine xx (X:=Nat×zo) (λ(k,l)=>⟨[(6,.bx 0 0),(20,.a (qc1 its)),(21,.i its.length),(22,.i k)],[(0,some (.cells 206 [.tp 1,.i l.next,.i l.many])),(1,some (.tip 4 210 (l.ents.map entA)))],2⟩)
   (λ(k,l)=>k<=its.length∧l.ents.length=k∧(1<=l.next∧l.next<=k+1∧0<=l.many∧l.many<=k)∧(its.drop k).foldl qds l=ofF its) (λ(k,l)=>its.length-k) (0,⟨[],1,0⟩) ⟨Om,rfl,⟨by decide,by decide,by decide,by decide⟩,rfl⟩ ?_ ?_
  .skip
   repeat' (first|apply Qa|(intro h;try exact cDd)|exact cSd|apply qb []|refine exr ?_|refine qf ?_)
   all_goals (simp;done)
  .rintro⟨k,l⟩ ⟨hk,hlk,hnx,a8⟩
   by_cases r8:k<its.length
   .have hx:its[k]?=some its[k]:=Qo r8
    have s7:(its.map qaj)[k]?=some (qaj its[k]):=by rw[Qq,hx];rfl
    rw[Qr r8,Zu]at a8;have bf:(l.ents.map entA).length=l.ents.length:=Sx
    generalize its[k]=x at hx s7 a8;by_cases hk3:x.kind=3
    .have e:qds l x=⟨l.ents++[⟨x,l.next⟩],l.next+1,l.many+1⟩:=if_pos hk3
     rw[e]at a8;apply qd [];repeat' (first|apply Qa|(intro h;try exact cDd)|(refine Qb (k) ⟨Om,_,s7,?_⟩)|(refine Qb (k+1,⟨l.ents++[⟨x,l.next⟩],l.next+1,l.many+1⟩) ⟨⟨Om,by simp[hlk],by simp only;omega,a8⟩,by simp only;omega,?_⟩)|exact cSd|apply qb []|refine exr ?_|refine qf ?_)
     all_goals (simp;done)
    .have e:qds l x=⟨l.ents++[⟨x,0⟩],l.next,l.many⟩:=if_neg hk3
     rw[e]at a8;apply qd [];repeat' (first|apply Qa|(intro h;try exact cDd)|(refine Qb (k) ⟨Om,_,s7,?_⟩)|(refine Qb (k+1,⟨l.ents++[⟨x,0⟩],l.next,l.many⟩) ⟨⟨Om,by simp[hlk],by simp only;omega,a8⟩,by simp only;omega,?_⟩)|exact cSd|apply qb []|refine exr ?_|refine qf ?_)
     all_goals (simp;done)
   .have r8:k=its.length:=by omega
    subst r8;rw[Zb]at a8;have e:ofF its=l:=a8.symm;rw[e];apply qd [];repeat' (first|apply Qa|(intro h;try exact cDd)|exact cSd|apply qb []|refine exr ?_|refine qf ?_)
end Go.Proofs.YthnbabbhpeebbaaGreatDoor
namespace Go.Av
open Go Go.RowKit
theorem qg2{E:Env}{rd:Option Nat}{N:Nat}{ops:Array Oper}{K:AS->Prop}{s:AS}{rest:List Oper}{d:Option Tmp}{T:TypeId}{p:String}{af:Array Edge}{x:Operand}{t t' te:TypeId}{sz:Nat}{xs:List AV}{tip:Option Nat}(hx:qg N s x=.sl sz xs tip)(hu:E.P.underlying t=some (.slice te))
  (h1:xs=[]->AOps E rd N ops rest K (s.put d (Bv true))) (h2:AOps E rd N ops rest K (s.put d (Bv false))):AOps E rd N ops (⟨d,.binOp .eql t x (.const (.slice none 0 0)) t',T,p,af,none⟩::rest) K s:=by
 refine qv rfl (qu nofun λB0 w0 G a w _ hI=>?_);have he:=hI.eval_of hx
 have key:∃q n c,a.eval x=.slice q n c∧(q.isNone=true->xs=[]):=by
  generalize a.eval x=u at he
  cases he with
  |sl0=>exact⟨_,_,_,rfl,λ_=>rfl⟩
  |sl=>exact⟨_,_,_,rfl,λh=>by simp at h⟩
 obtain⟨q,n,c,hv,hq0⟩:=key;have hc:a.eval (.const (.slice none 0 0))=.slice none 0 0:=rfl;have hq:=Lib.run_eql_slice_nil (P:=E.P) w t te q n c 0 0 hu;refine⟨_,w,G,.v (.bool q.isNone),s.st,?_,.refl G,hI.agree,.v _,?_⟩
 .generalize a.eval=ρ at hv hc
  simp[execOp,hv,hc,eqGuard_at_slice,hq]
 .cases hb:q.isNone with
  |true=>exact h1 (hq0 hb)
  |false=>exact h2
theorem qcv.len0{c:AV}(h:qcv c):∀(G:Gh)(v:Value),Rel G c v->∃b n cp,v=.slice b n cp∧n<=cp:=λG v hv=>by
 obtain⟨base,rfl⟩:=h.val G v hv;exact⟨_,_,_,rfl,Qn _⟩
end Go.Av
namespace Go.Proofs.YthnbabbhpeebbaaGreatDoor
open Go Go.Av Go.RowKit Go.Proofs Go.Pl
theorem q46(fs:List Fld)(st:List AObj)(hl:fs.length<1000000):qm E 142 [wn fs] st λr st'=>r=wn fs∧st'=st:=by
 refine ze (qd1 _) (qq Tryz.func142 rfl (Qi rfl) ?_);have bf:(fs.map fldA).length=fs.length:=Sx
 rw[Qj];repeat' (first|(apply qax (st:=st);(iterate 6 exact rfl))|(apply qg2;exact rfl;exact rfl;intro h0)|apply qp|apply qi|apply qh|apply ql|apply qj|(apply qe;exact rfl;apply cd_t;exact cRa)|(apply qe;exact rfl;apply cd_f;exact cRa)|apply za|apply q7|(apply qfr (b:=st.length) (xs:=[]) (ys:=fs.map fldA) (bytes:=32);(iterate 5 exact rfl);exact⟨⟨_,_,rfl,rfl,rfl,rfl,rfl⟩⟩;(focus (repeat' (first|assumption|exact qgx _ _ _ _|exact qvm _ _ _ _ _ _ _|apply qnb|apply qo3|(refine y0 (T:=_) (ver:=_) (cs:=_) ?_)|exact we|exact jl rfl|apply ke|apply kq|omega|apply qay)));(exact qd4);(first|exact rfl|exact qba λ_=>rfl);((simp[maxLen];omega));((simp;omega));intro c' S' t1 g1 g2 g3 g4))
 .exact qo rfl (vh (zt rfl) (λG v h=>by
   rw[wn,h0]
   exact qbo h)) ⟨rfl,_,(Qj st).symm⟩
 .exact qo rfl (vh (zt rfl) (qjs g1)) ⟨rfl,qph λj hj=>(g2.same j Om (Nat.lt_of_lt_of_le hj qd4)).trans (Qg hj)⟩
theorem q45(es:List EntV)(st:List AObj)(hl:es.length<1000000):qm E 158 [.sl 4 (es.map entA) none] st λr st'=>OwnR 4 210 (es.map entA) st (.v undef) r st':=by
 refine qq Tryz.func158 rfl (Qi rfl) ?_;have bf:(es.map entA).length=es.length:=Sx
 rw[Qj];by_cases he:es=[]
 .subst he
  repeat' (first|(apply qax (st:=st);(iterate 6 exact rfl))|(apply qg2;exact rfl;exact rfl;intro h0)|(apply qya (c:=.os st.length 0 0 0 0);exact rfl;exact(qon _ _ _).len0;exactλ_ _ h=>h;exact rfl;exact rfl;exact⟨⟨_,_,rfl,rfl,rfl,rfl,rfl⟩⟩)|apply qp|apply qi|apply qh|apply ql|apply qj|(apply qe;exact rfl;apply cd_t;exact cRa)|(apply qe;exact rfl;apply cd_f;exact cRa)|apply za|apply q7)
  .exact qo rfl (zt rfl) ⟨.inl ⟨rfl,qrh none⟩,Qn _,λ_ _ _=>rfl,λo ho=>by
   have ho:o∈([]:List Nat):=ho
   simp at ho⟩
  .exact qo rfl (zt rfl) ⟨.inl ⟨rfl,qon _ _ _⟩,qd4,λj hj _=>Qg hj,λo ho=>by
   have ho:o∈([]:List Nat):=ho
   simp at ho⟩
 .have d7:es.map entA≠[]:=by simpa using he
  repeat' (first|(apply qax (st:=st);(iterate 6 exact rfl))|(apply qg2;exact rfl;exact rfl;intro h0)|(refine qi8 (ys:=es.map entA) (bytes:=56) (qon _ _ _).val (λ_ _ h=>h) rfl rfl ⟨⟨_,_,rfl,rfl,rfl,rfl,rfl⟩⟩ (qba λ_=>rfl) d7 (by simp[maxLen];omega) So λcap pad q1 q2 q3 q4=>?_)|apply qp|apply qi|apply qh|apply ql|apply qj|(apply qe;exact rfl;apply cd_t;exact cRa)|(apply qe;exact rfl;apply cd_f;exact cRa)|apply za|apply q7)
  .exact absurd h0 d7
  .refine qo rfl (zt rfl) ⟨.inr ⟨_,0,cap,pad,rfl,we,q1,q2,q3,q4⟩,Zp qd4 qd4,λj hj _=>?_,λo ho=>?_⟩
   .show((st++[_])++[_])[j]?=_
    rw[Qg So,Qg hj]
   .have e7:o∈[(st++[AObj.cells 0 210 []]).length]:=ho
    rw[Qw]at e7;left;rw[e7];simp
end Go.Proofs.YthnbabbhpeebbaaGreatDoor
namespace Go.Pl
open Go Go.Proofs
def qb7(id:Int):Nat->List EntV->Int
 |_,[]=> -1
 |k,e::r=>if e.id=id then(k:Int)else qb7 id (k+1) r
def atF(l:zo)(id:Int):Int:=if id<1 then -1 else qb7 id 0 l.ents
theorem qtg(id:Int):∀(es:List EntV)(k:Nat),qb7 id k es= -1∨∃i e,qb7 id k es=((k+i:Nat):Int)∧es[i]?=some e∧e.id=id
 | [],k=>.inl rfl
 |e::r,k=>by
  unfold qb7;by_cases h:e.id=id
  .rw[if_pos h]
   exact .inr ⟨0,e,Sx,rfl,h⟩
  .rw[if_neg h]
   rcases qtg id r (k+1)with g|⟨i,e',g1,g2,g3⟩
   .exact .inl g
   .exact .inr ⟨i+1,e',by rw[g1];congr 1;omega,by simpa using g2,g3⟩
theorem qso(l:zo)(id:Int):atF l id= -1∨∃(i:Nat)(e:EntV),atF l id=(i:Int)∧l.ents[i]?=some e∧e.id=id∧1<=id:=by
 unfold atF;by_cases h:id<1
 .exact .inl (if_pos h)
 .rw[if_neg h]
  rcases qtg id l.ents 0 with g|⟨i,e,g1,g2,g3⟩
  .exact .inl g
  .exact .inr ⟨i,e,by rw[g1];congr 1;omega,g2,g3,Om⟩
end Go.Pl
namespace Go.Proofs.YthnbabbhpeebbaaGreatDoor
open Go Go.Av Go.RowKit Go.Proofs Go.Pl
theorem ziz(e:EntV)(id:Int)(st:List AObj):qm E 248 [entA e,.pp [Iv id]] st λr st'=>r=Bv (decide (e.id=id))∧st'=st:=by
 refine ja [.a (entA e),.a (.pp [Iv id])] (qw _) Tryz.func248 rfl rfl (λ_=>rfl) rfl λS0=>?_;apply qd [];repeat' (first|apply Qa|(intro h;try exact cDd)|exact cSd|apply qb []|refine exr ?_|refine qf ?_)
@[reducible] def atFn (id : Int) : SV := .fn (.func 248) [] [.a (.pp [Iv id])]
@[reducible] def lstH (a : Nat) (l : zo) : List (Nat × Option SR) := [(0, some (.cells 206 [.tp a, .i l.next, .i l.many])), (a, some (.own 4 210 (l.ents.map entA)))]
theorem zb7(es:List EntV)(id:Int)(hl:es.length<1000000):qz E 247 [.tp 0,atFn id] 1 (hpF [(0,some (.own 4 210 (es.map entA)))]) ⟨.i (qb7 id 0 es),q8 [(0,some (.own 4 210 (es.map entA)))],[(0,some (.own 4 210 (es.map entA)))]++q9 [(0,some (.own 4 210 (es.map entA)))],1⟩:=by
 refine je [.tp 0,atFn id] [(0,some (.own 4 210 (es.map entA)))] 1 (.i (qb7 id 0 es)) [(0,some (.own 4 210 (es.map entA)))] 1 Tryz.func247 rfl rfl rfl rfl λS F ρ=>?_;have bf:(es.map entA).length=es.length:=Sx
 apply qd [];repeat' (first|apply Qa|(intro h;try exact cDd)|exact cSd|apply qb []|refine exr ?_|refine qf ?_)
 refine xx (X:=Nat) (λk=>⟨[(0,.tp 0),(1,atFn id),(7,.i es.length),(8,.i k)],[(0,some (.own 4 210 (es.map entA)))],1⟩) (λk=>k<=es.length∧qb7 id k (es.drop k)=qb7 id 0 es) (λk=>es.length-k) 0 ⟨Om,Sx⟩ ?_ ?_
 .skip
  repeat' (first|apply Qa|(intro h;try exact cDd)|exact cSd|apply qb []|refine exr ?_|refine qf ?_)
  all_goals (simp;done)
 .rintro k ⟨hk,a8⟩
  by_cases r8:k<es.length
  .have hx:es[k]?=some es[k]:=Qo r8
   have s7:(es.map entA)[k]?=some (entA es[k]):=by rw[Qq,hx];rfl
   rw[Qr r8,qb7]at a8;generalize es[k]=e at hx s7 a8;have h1:=λst=>ziz e id st;by_cases nc:e.id=id
   .rw[if_pos nc]at a8
    rw[decide_eq_true nc]at h1;rw[<-a8];apply qd [];repeat' (first|apply Qa|(intro h;try exact cDd)|(refine qrl (i:=k) rfl rfl rfl rfl rfl rfl Om ?_)|(refine q0s (i:=k) (j:=0) rfl rfl rfl rfl s7 rfl rfl ?_)|exact⟨Tryz.call248⟩|refine cpe h1 ?_|exact cSd|apply qb []|refine exr ?_|refine qf ?_)
   .rw[if_neg nc]at a8
    rw[decide_eq_false nc]at h1;apply qd [];repeat' (first|apply Qa|(intro h;try exact cDd)|(refine qrl (i:=k) rfl rfl rfl rfl rfl rfl Om ?_)|(refine q0s (i:=k) (j:=0) rfl rfl rfl rfl s7 rfl rfl ?_)|exact⟨Tryz.call248⟩|refine cpe h1 ?_|(refine Qb (k+1) ⟨⟨Om,a8⟩,Om,?_⟩)|exact cSd|apply qb []|refine exr ?_|refine qf ?_)
  .have r8:k=es.length:=by omega
   subst r8;rw[Zb,qb7]at a8;rw[<-a8];apply qd [];repeat' (first|apply Qa|(intro h;try exact cDd)|exact cSd|apply qb []|refine exr ?_|refine qf ?_)
theorem quu(l:zo)(id:Int)(hl:l.ents.length<1000000):qz E 210 [.bx 0 0,.i id] 2 (hpF (lstH 1 l)) ⟨.i (atF l id),q8 (lstH 1 l),lstH 1 l++q9 (lstH 1 l),2⟩:=by
 refine je [.bx 0 0,.i id] (lstH 1 l) 2 (.i (atF l id)) (lstH 1 l) 2 Tryz.func210 rfl rfl rfl rfl λS F ρ=>?_;unfold atF;have h1:=zb7 l.ents id hl;by_cases h:id<1
 .rw[if_pos h]
  apply qd [];repeat' (first|apply Qa|(intro h;try exact cDd)|exact cSd|apply qb []|refine exr ?_|refine qf ?_)
 .rw[if_neg h]
  apply qd [];repeat' (first|apply Qa|(intro h;try exact cDd)|exact⟨Tryz.call247⟩|(refine qx h1 ?_)|exact cSd|apply qb []|refine exr ?_|refine qf ?_)
end Go.Proofs.YthnbabbhpeebbaaGreatDoor
namespace Go.Pl
open Go Go.Proofs
def qvj(fs:List Fld):qa:=if vi fs=.no then kp fs else []
def qeq(fs:List Fld):jc:=if vi fs=.no then⟨3,kp fs,fs⟩else⟨0,[],[]⟩
def qa4(its:List jc):qa:=its.flatMap λx=>x.raw
theorem qot(a b:List jc):qa4 (a++b)=qa4 a++qa4 b:=by simp[qa4]
theorem qkp(x:jc):qa4 [x]=x.raw:=by simp[qa4]
def qhf(prev:Bool):List jc->List jc
 | []=>[]
 |x::r=>(if prev=true∧x.kind≠1 then [⟨1,[10],[]⟩,x]else [x])++qhf (decide (x.kind≠1)) r
def q66(its:List jc):List jc:=qhf false its
def qji(l:zo):List jc:=l.ents.map λe=>e.x
def q6w(l:zo):qa:=qa4 (q66 (qji l))
end Go.Pl
namespace Go.Proofs.YthnbabbhpeebbaaGreatDoor
open Go Go.Av Go.RowKit Go.Proofs Go.Pl
theorem q9q(fs:List Fld)(st:List AObj)(hK:KeyB fs)(hl:fs.length<9223372036854775808):qm E 249 [wn fs] st λr st'=>r=.tu [Sv (qvj fs),errA (vi fs)]∧st'=st:=by
 refine ja [.a (wn fs)] (vz (qw _) (vu _)) Tryz.func249 rfl rfl (λ_=>rfl) rfl λS0=>?_;unfold qvj
 cases he:vi fs with
 |no=>
  rw[if_pos rfl];have h1:=λst=>qmz fs st _ he hK hl;obtain⟨_,h3,h4⟩:=ql7 he;have h2:=λst=>qte fs st h3 h4;apply qd []
  repeat' (first|apply Qa|(intro h;try exact cDd)|exact⟨Tryz.call209⟩|refine cpe h1 ?_|exact⟨Tryz.call129⟩|refine cpe h2 ?_|exact cSd|apply qb []|refine exr ?_|refine qf ?_)
 |num n=>
  rw[if_neg Sx];have h1:=λst=>qmz fs st _ he hK hl;apply qd []
  repeat' (first|apply Qa|(intro h;try exact cDd)|exact⟨Tryz.call209⟩|refine cpe h1 ?_|exact cSd|apply qb []|refine exr ?_|refine qf ?_)
 |at' a n=>
  rw[if_neg Sx];have h1:=λst=>qmz fs st _ he hK hl;apply qd [];repeat' (first|apply Qa|(intro h;try exact cDd)|exact⟨Tryz.call209⟩|refine cpe h1 ?_|exact cSd|apply qb []|refine exr ?_|refine qf ?_)
theorem q31(fs:List Fld)(st:List AObj)(hK:KeyB fs)(hl:fs.length<1000000):qm E 211 [wn fs] st λr st'=>r=.tu [qaj (qeq fs),errA (vi fs)]∧st'=st:=by
 refine ja [.a (wn fs)] (vz (qh8 (qqh _)) (vu _)) Tryz.func211 rfl rfl (λ_=>rfl) rfl λS0=>?_;have h1:=λst=>q9q fs st hK Om;have h2:=λst=>q46 fs st hl;unfold qvj at h1;unfold qeq
 cases he:vi fs with
 |no=>
  rw[he,if_pos rfl]at h1;rw[if_pos rfl];apply qd []
  repeat' (first|apply Qa|(intro h;try exact cDd)|exact⟨Tryz.call249⟩|refine cpe h1 ?_|exact⟨Tryz.call142⟩|refine cpe h2 ?_|exact cSd|apply qb []|refine exr ?_|refine qf ?_)
 |num n=>
  rw[he,if_neg Sx]at h1;rw[if_neg Sx];apply qd []
  repeat' (first|apply Qa|(intro h;try exact cDd)|exact⟨Tryz.call249⟩|refine cpe h1 ?_|exact cSd|apply qb []|refine exr ?_|refine qf ?_)
 |at' a n=>
  rw[he,if_neg Sx]at h1;rw[if_neg Sx];apply qd [];repeat' (first|apply Qa|(intro h;try exact cDd)|exact⟨Tryz.call249⟩|refine cpe h1 ?_|exact cSd|apply qb []|refine exr ?_|refine qf ?_)
structure ItsB (its:List jc):Prop where
 len:its.length<=1000000
 fld:∀x∈its,x.fields.length<1000000
theorem qjb(es:List EntV):∀x∈es.map entA,x.cells.length=4:=λx hx=>by
 obtain⟨e,_,rfl⟩:=Qx.1 hx;rfl
theorem qdk(es:List EntV):(flat (es.map entA)).length=es.length*4:=by
 rw[jh (qjb es),Qk]
theorem qhl(a b:List EntV):flat ((a++b).map entA)=flat (a.map entA)++flat (b.map entA):=by rw[List.map_append,xn]
theorem qeh(A B xs:List AV){off:Nat}(h:A.length=off):z0 (A++B) off xs=A++xs++B.drop xs.length:=by
 unfold z0;rw[<-h,Qt,List.drop_append,Qz Om];simp
theorem qiy{cs xs:List AV}{off:Nat}(h:off+xs.length<=cs.length):(z0 cs off xs).length=cs.length:=by
 unfold z0;simp;omega
theorem zik(es:List EntV)(i:Nat)(hi:i<es.length)(hl:es.length<1000000)(st:List AObj)(c:AV)(hc:OwnS st 4 210 (es.map entA) c):qm E 212 [c,Iv i,Iv ((i:Int)+1)] st λr st'=>OwnR 4 210 ((es.take i++es.drop (i+1)).map entA) st c r st':=by
 have bf:(es.map entA).length=es.length:=Sx
 rcases hc with⟨h0,_⟩|⟨o,ver,cap,pad,rfl,e2,e3,e4,e5,e6⟩
 .rw[h0]at bf
  simp at bf;omega
 rw[bf]at e5⊢;have e8:=lt_of_getElem? e2;have r6:=qdk es
 have cw:flat (es.map entA)++pad=flat ((es.take i).map entA)++(flat ((es.drop i).map entA)++pad):=by
  rw[<-Qc,<-qhl,Qh]
 have ht4:(flat ((es.take i).map entA)).length=i*4:=by rw[qdk,Zc,Zk Om]
 have hd4:(flat ((es.drop (i+1)).map entA)).length=(es.length-(i+1))*4:=by rw[qdk,Zd]
 obtain⟨B1,hB1⟩:∃B1,(flat ((es.drop i).map entA)++pad).drop (flat ((es.drop (i+1)).map entA)).length=B1:=⟨_,rfl⟩
 have s6:z0 (flat (es.map entA)++pad) (i*4) (flat ((es.drop (i+1)).map entA))=flat ((es.take i++es.drop (i+1)).map entA)++B1:=by
  rw[cw,qeh _ _ _ ht4,qhl,hB1]
 have px:(flat ((es.take i++es.drop (i+1)).map entA)++B1).length=(cap+1)*4:=by
  rw[<-s6,qiy (by rw[e3,hd4];omega),e3]
 have mw:(es.take i++es.drop (i+1)).length=es.length-1:=So
 -- what is appended
 obtain⟨q,hq⟩:∃q,(if cap+1=i+1 then 0 else 0+(i+1)*4)=q:=⟨_,rfl⟩
 have hqz:((flat (es.map entA)++pad).drop q).take ((es.length-(i+1))*4)=flat ((es.drop (i+1)).map entA)∧q+(es.length-(i+1))*4<=(flat (es.map entA)++pad).length:=by
  rw[e3];by_cases hci:cap+1=i+1
  .have:es.length-(i+1)=0:=by omega
   rw[if_pos hci]at hq;rw[this,<-hq,Qz (by omega:es.length<=i+1)];exact⟨by simp[flat],Om⟩
  .rw[if_neg hci]at hq
   rw[<-hq];refine⟨?_,Om⟩
   have e:flat (es.map entA)++pad=flat ((es.take (i+1)).map entA)++(flat ((es.drop (i+1)).map entA)++pad):=by
    rw[<-Qc,<-qhl,Qh]
   have e':(flat ((es.take (i+1)).map entA)).length=0+(i+1)*4:=by rw[qdk,Zc,Zk Om];omega
   rw[e,<-e',Qe,<-hd4,Qt]
 have cx:SrcA st 4 (.os o ver q (es.length-(i+1)) (cap+1-(i+1))) (es.length-(i+1)) (es.length-(i+1)) (flat ((es.drop (i+1)).map entA)):=by
  have:=SrcA.os (st:=st) (sz:=4) o ver q (es.length-(i+1)) (cap+1-(i+1)) (es.length-(i+1)) _ _ e2 hqz.2 (by rw[hqz.1];exact qba λ_=>rfl);rw[hqz.1]at this;exact this
 refine qq Tryz.func212 rfl (Qi rfl) ?_;rw[Qj];repeat' (first|(refine zz (sz:=4) (i:=i) (j:=i+1) (m:=es.length) rfl rfl rfl ?_ ?_ ?_ ?_ ?_ ?_ ?_;exact⟨_,rfl⟩;exact⟨_,rfl⟩;exact⟨_,rfl⟩;omega;omega;omega)|apply qp|apply qi|apply qh|apply ql|apply qj|(apply zh;(iterate 3 exact rfl))|(apply qe;exact rfl;apply yw;exact cAo)|(apply kc;(iterate 4 exact rfl))|apply za)
 refine quv (λs=>StA [(0,.os o ver 0 (i+(es.length-(i+1))) (cap+1)),(7,Iv es.length)] (st.set o (.cells ver 210 (flat ((es.take i++es.drop (i+1)).map entA)++B1))) [] s) ?_ ?_
 .refine qj8 rfl rfl ?_
  (apply yl 0;exact rfl;kernel_rfl;kernel_rfl;kernel_rfl;exact rfl;exact y4)
  (apply yl 1;exact rfl;kernel_rfl;kernel_rfl;kernel_rfl;exact rfl;exact y4)
  (apply yl 3;exact rfl;kernel_rfl;kernel_rfl;kernel_rfl;exact rfl;exact y4)
  (apply yl 4;exact rfl;kernel_rfl;kernel_rfl;kernel_rfl;exact rfl;exact y4)
  refine w8 [2,5] Kr rfl ⟨⟨_,rfl,?_⟩,⟨_,rfl,?_⟩,trivial⟩
  ·(refine zz (sz:=4) (i:=0) (j:=i) (m:=cap+1) rfl rfl rfl ?_ ?_ ?_ ?_ ?_ ?_ ?_;exact rfl;exact⟨_,rfl⟩;exact rfl;omega;omega;omega)
   apply qh;refine w8 [5] Kr rfl ⟨⟨_,rfl,?_⟩,trivial⟩
   (refine zz (sz:=4) (i:=i+1) (j:=es.length) (m:=cap+1) rfl rfl rfl ?_ ?_ ?_ ?_ ?_ ?_ ?_;exact⟨_,rfl⟩;exact⟨rfl,rfl⟩;exact rfl;omega;omega;omega;rw[hq])
   apply qh;refine w8 [6] Kr rfl ⟨⟨_,rfl,?_⟩,trivial⟩
   (refine qng (bytes:=56) (o:=o) (ver:=ver) (n:=i) (cap:=cap+1) (m:=es.length-(i+1)) (cs:=flat (es.map entA)++pad) rfl rfl e2 cx rfl rfl ⟨⟨_,_,rfl,rfl,rfl,rfl,rfl⟩⟩ Om e3 ?_;rw[s6])
   apply qh
   (apply yl 7;exact rfl;kernel_rfl;kernel_rfl;kernel_rfl;exact rfl;exact qvu)
   refine qc4 Kr ?_;exact xp ⟨rfl,rfl,trivial⟩
  ·(refine zz (sz:=4) (i:=i+1) (j:=es.length) (m:=cap+1) rfl rfl rfl ?_ ?_ ?_ ?_ ?_ ?_ ?_;exact⟨_,rfl⟩;exact⟨rfl,rfl⟩;exact rfl;omega;omega;omega;rw[hq])
   apply qh;refine w8 [2] Kr rfl ⟨⟨_,rfl,?_⟩,trivial⟩
   (refine zz (sz:=4) (i:=0) (j:=i) (m:=cap+1) rfl rfl rfl ?_ ?_ ?_ ?_ ?_ ?_ ?_;exact rfl;exact⟨_,rfl⟩;exact rfl;omega;omega;omega)
   apply qh;refine w8 [6] Kr rfl ⟨⟨_,rfl,?_⟩,trivial⟩
   (refine qng (bytes:=56) (o:=o) (ver:=ver) (n:=i) (cap:=cap+1) (m:=es.length-(i+1)) (cs:=flat (es.map entA)++pad) rfl rfl e2 cx rfl rfl ⟨⟨_,_,rfl,rfl,rfl,rfl,rfl⟩⟩ Om e3 ?_;rw[s6])
   apply qh
   (apply yl 7;exact rfl;kernel_rfl;kernel_rfl;kernel_rfl;exact rfl;exact qvu)
   refine qc4 Kr ?_;exact xp ⟨rfl,rfl,trivial⟩
 .rintro _ ⟨t,rfl⟩
  have fj:(st.set o (AObj.cells ver 210 (flat ((es.take i++es.drop (i+1)).map entA)++B1)))[o]?=some (.cells ver 210 (flat ((es.take i++es.drop (i+1)).map entA)++B1)):=ke e2
  have hqq:(if cap+1=i+(es.length-(i+1))then 0 else 0+(i+(es.length-(i+1)))*4)=(es.length-1)*4:=by
   rw[if_neg Om];omega
  have hfe:(flat ((es.take i++es.drop (i+1)).map entA)).length=(es.length-1)*4:=by rw[qdk,mw]
  repeat' (first|(refine zz (sz:=4) (i:=i+(es.length-(i+1))) (j:=es.length) (m:=cap+1) rfl rfl rfl ?_ ?_ ?_ ?_ ?_ ?_ ?_;exact⟨_,rfl⟩;exact⟨_,rfl⟩;exact rfl;omega;omega;omega;rw[hqq])|(refine qye (sz:=4) (bytes:=56) rfl fj rfl ⟨⟨_,_,rfl,rfl,rfl,rfl,rfl⟩⟩ rfl (by rw[px];omega) λzs hz=>?_)|apply qp|apply qi|apply qh|apply ql|apply qj|(apply kc;(iterate 4 exact rfl))|apply q7)
  refine qo rfl (zt rfl) ?_
  show OwnR 4 210 _ st _ (.os o ver 0 (i+(es.length-(i+1))) (cap+1)) ((st.set o _).set o (.cells ver 210 (z0 (flat ((es.take i++es.drop (i+1)).map entA)++B1) ((es.length-1)*4) zs)))
  rw[Zv,qeh _ _ _ hfe,Qc];have hB1l:(es.length-1)*4+B1.length=(cap+1)*4:=by rw[<-hfe,<-Qd];exact px
  have hzl:zs.length=4:=by rw[hz];omega
  refine⟨.inr ⟨o,ver,cap,zs++B1.drop zs.length,?_,ke e2,?_,qjb _,?_,e6⟩,Sx,λj hj d7=>Qp λe=>d7 (by rw[e];simp[qr]),λo' e7=>.inr e7⟩
  .rw[Qk,mw]
   congr 1;omega
  .rw[Qd,Qd,Zd,hfe,hzl]
   omega
  .rw[Qk,mw]
   omega
theorem zgl(e:EntV)(st:List AObj)(c:AV)(hnr:qcv c):qm E 213 [c,Iv 0,.sl 4 [entA e] none] st λr st'=>OwnR 4 210 [entA e] st c r st':=by
 refine qq Tryz.func213 rfl (Qi rfl) ?_;rw[Qj];repeat' (first|(apply kc (n:=1);(iterate 4 exact rfl))|(refine qyi (sz:=4) rfl hnr.val rfl rfl ?_ ?_;exact⟨_,rfl⟩)|(apply kc;exact rfl;exact hnr.len;exact rfl;exact rfl)|(refine qi8 (sz:=4) (ys:=[entA e]) (bytes:=56) hnr.val (λ_ _ h=>h) rfl rfl ⟨⟨_,_,rfl,rfl,rfl,rfl,rfl⟩⟩ rfl Sx (by simp[maxLen]) Sx λcap pad q1 q2 q3 q4=>?_)|apply qp|apply qi|apply qh|apply ql|apply qj|(apply zh;(iterate 3 exact rfl))|(apply qe;exact rfl;apply y5;exact cAo)|(apply qe;exact rfl;apply yw;exact cAo)|apply za|apply q7)
 refine qo rfl (zt rfl) ?_
 show OwnR 4 210 _ st c (.os st.length 0 0 _ (cap+1)) (st++[_])
 refine⟨.inr ⟨_,0,cap,pad,rfl,we,q1,q2,q3,q4⟩,qd4,λj hj _=>Qg hj,λo ho=>?_⟩;simp only[qr,Qw]at ho;left;omega
theorem zgm(es:List EntV)(e:EntV)(hl:es.length<1000000)(st:List AObj)(o ver cap:Nat)(pad:List AV)(e2:st[o]?=some (.cells ver 210 (flat (es.map entA)++pad)))(e3:(flat (es.map entA)++pad).length=(cap+1)*4)(e5:es.length<=cap+1)(e6:cap+1<=maxLen):
  qm E 213 [.os o ver 0 es.length (cap+1),Iv es.length,.sl 4 [entA e] none] st λr st'=>OwnR 4 210 (es.map entA++[entA e]) st (.os o ver 0 es.length (cap+1)) r st':=by
 have bf:(es.map entA).length=es.length:=Sx
 have e8:=lt_of_getElem? e2
 have hV0:Vec 4 210 o (es.map entA) (.os o ver 0 es.length (cap+1)) (.cells ver 210 (flat (es.map entA)++pad)):=by
  have:=Vec.os (o:=o) (T:=210) (xs:=es.map entA) ver (cap+1) pad e3 (qjb _) Om e6;rw[bf]at this;exact this
 refine qq Tryz.func213 rfl (Qi rfl) ?_;rw[Qj];repeat' (first|(apply kc (n:=1);(iterate 4 exact rfl))|(refine zz (sz:=4) (i:=es.length) (j:=es.length) (m:=cap+1) rfl rfl rfl ?_ ?_ ?_ ?_ ?_ ?_ ?_;exact⟨_,rfl⟩;exact⟨rfl,rfl⟩;exact rfl;omega;omega;omega)|(refine qxg (sz:=4) (bytes:=56) (o:=o) (xs:=es.map entA) (ys:=[entA e]) rfl (λ_ _ h=>h) hV0 e2 rfl rfl ⟨⟨_,_,rfl,rfl,rfl,rfl,rfl⟩⟩ rfl (by simp[maxLen];omega) So λa' ob' hV=>?_)|apply qp|apply qi|apply qh|apply ql|apply qj|(apply zh;(iterate 3 exact rfl))|(apply qe;exact rfl;apply y5;exact cAo)|(apply qe;exact rfl;apply yw;exact cAo)|(apply kc;(iterate 4 exact rfl))|apply za|apply q7)
 rcases zit hV with⟨q,_,_⟩|⟨ver',cap',pad',rfl,rfl,q1,q2,q3,q4⟩
 .simp at q
 .obtain⟨cap',rfl⟩:∃c,cap'=c+1:=⟨cap'-1,by simp at q3;omega⟩
  refine qo rfl (zt rfl) ?_
  show OwnR 4 210 _ st _ (.os o ver' 0 _ (cap'+1)) (st.set o _)
  exact⟨.inr ⟨o,ver',cap',pad',rfl,ke e2,q1,q2,q3,q4⟩,Sx,λj hj d7=>Qp λe=>d7 (by rw[e];simp[qr]),λo' e7=>.inr e7⟩
theorem q0p(w:World)(a b:Addr)(la ca lb cb:Nat)(tA tB:TypeId)(kA kB:Nat)(h1:a.block≠b.block)(h2:w.shape? a.block=some (tA,kA))(h3:w.shape? b.block=some (tB,kB))(h4:kA≠0)(h5:w.frozen? b=false)(h6:w.frozen? {block:=b.block,off:=kB}=false):
  (callFunc 250 #[.slice (some a) la ca,.slice (some b) lb cb]).run E.P w=.ok (.value (.bool false)) w:=by
 have hz:∀w,(Go.sizeOf 210).run E.P w=.ok 4 w:=λw=>(vj (agg:=true) rfl w).1
 rw[run_callFunc_extern (P:=E.P) Tryz.func250 Kr Kr Kr (e:=Extern.SlicesOverlaps.overlaps #[204,204] #[4]) Kr,
  qrt w 204 4 210 rfl 4 hz a b la ca lb cb h1 tA tB kA kB h2 h3 h4 h5 h6]
 rfl
structure InsB (es:List EntV) (e:EntV) (i cap:Nat) (pad:List AV):Prop where
 t4:(flat ((es.take i).map entA)).length=i*4
 d4:(flat ((es.drop i).map entA)).length=(es.length-i)*4
 split:flat (es.map entA)++pad=flat ((es.take i).map entA)++(flat ((es.drop i).map entA)++pad)
 take:(flat (es.map entA)++pad).take (i*4)=flat ((es.take i).map entA)
 drop:((flat (es.map entA)++pad).drop (0+i*4)).take ((es.length-i)*4)=flat ((es.drop i).map entA)
 new:flat ((es.take i++e::es.drop i).map entA)=flat ((es.take i).map entA)++flat [entA e]++flat ((es.drop i).map entA)
 nl:(es.take i++e::es.drop i).length=es.length+1
 src:∀o ver L c'(S:List AObj),(flat (es.map entA)++pad).length=(cap+1)*4->es.length<=cap+1->S[o]?=some (.cells ver 210 (flat (es.map entA)++pad))->SrcA S 4 (.os o ver (0+i*4) L c') L (es.length-i) (flat ((es.drop i).map entA))
theorem insB(es:List EntV)(e:EntV)(i cap:Nat)(pad:List AV)(hi:i<es.length):InsB es e i cap pad:=by
 have ht4:(flat ((es.take i).map entA)).length=i*4:=by rw[qdk,Zc,Zk Om]
 have hd4:(flat ((es.drop i).map entA)).length=(es.length-i)*4:=by rw[qdk,Zd]
 have cw:flat (es.map entA)++pad=flat ((es.take i).map entA)++(flat ((es.drop i).map entA)++pad):=by
  rw[<-Qc,<-qhl,Qh]
 have hdrop:((flat (es.map entA)++pad).drop (0+i*4)).take ((es.length-i)*4)=flat ((es.drop i).map entA):=by rw[Nat.zero_add,cw,<-ht4,Qe,<-hd4,Qt]
 refine⟨ht4,hd4,cw,by rw[cw,<-ht4,Qt],hdrop,?_,So,λo ver L c' S e3 e5 hS=>?_⟩
 .rw[qhl]
  simp[flat]
 .have:=SrcA.os (st:=S) (sz:=4) o ver (0+i*4) L c' (es.length-i) _ _ hS (by rw[e3];omega) (by rw[hdrop];exact qba λ_=>rfl)
  rw[hdrop]at this;exact this
set_option maxHeartbeats 4000000 in
theorem zgo(es:List EntV)(e:EntV)(i:Nat)(hi:i<es.length)(hl:es.length<1000000)(st:List AObj)(o ver cap:Nat)(pad:List AV)(e2:st[o]?=some (.cells ver 210 (flat (es.map entA)++pad)))(e3:(flat (es.map entA)++pad).length=(cap+1)*4)(e5:es.length+1<=cap+1)(e6:cap+1<=maxLen):
  qm E 213 [.os o ver 0 es.length (cap+1),Iv i,.sl 4 [entA e] none] st λr st'=>OwnR 4 210 ((es.take i++e::es.drop i).map entA) st (.os o ver 0 es.length (cap+1)) r st':=by
 have hI:=insB es e i cap pad hi;have e8:=lt_of_getElem? e2;have hfl1:(flat [entA e]).length=4:=rfl;have ht4:=hI.t4;have hd4:=hI.d4;have hi1:(if cap+1=i then 0 else 0+i*4)=0+i*4:=if_neg Om;have mc:(if cap+1=i+1 then 0 else 0+(i+1)*4)=(i+1)*4:=by rw[if_neg Om];omega
 obtain⟨B1,hB1⟩:∃B1,(flat ((es.drop i).map entA)++pad).drop 4=B1:=⟨_,rfl⟩;obtain⟨A1,gq⟩:∃A1,(flat ((es.drop i).map entA)++pad).take 4=A1:=⟨_,rfl⟩
 have hA1l:A1.length=4:=by
  rw[<-gq,Zc,Qd,hd4];omega
 obtain⟨X1,hX1⟩:∃X1,flat ((es.take i).map entA)++A1++flat ((es.drop i).map entA)++B1.drop ((es.length-i)*4)=X1:=⟨_,rfl⟩
 have sk:z0 (flat (es.map entA)++pad) ((i+1)*4) (flat ((es.drop i).map entA))=X1:=by
  have e1:flat (es.map entA)++pad=(flat ((es.take i).map entA)++A1)++B1:=by rw[hI.split,Qc,<-gq,<-hB1,Qh]
  rw[e1,qeh _ _ _ (by rw[Qd,ht4,hA1l];omega),hd4,hX1]
 have pz:z0 X1 (0+i*4) (flat [entA e])=flat ((es.take i++e::es.drop i).map entA)++B1.drop ((es.length-i)*4):=by
  have e1:X1=flat ((es.take i).map entA)++(A1++(flat ((es.drop i).map entA)++B1.drop ((es.length-i)*4))):=by rw[<-hX1];simp
  rw[e1,qeh _ _ _ (by rw[ht4];omega),hfl1,Ze Om,Qz (by omega:A1.length<=4),hI.new];simp
 have hsl1:X1.length=(cap+1)*4:=by
  rw[<-sk,qiy (by rw[e3,hd4];omega),e3]
 have hsl2:(flat ((es.take i++e::es.drop i).map entA)++B1.drop ((es.length-i)*4)).length=(cap+1)*4:=by
  rw[<-pz,qiy (by rw[hsl1,hfl1];omega),hsl1]
 have cx:=hI.src o ver (es.length+1-i) (cap+1-i) st e3 Om e2;have hnl:=hI.nl;generalize hXn:flat ((es.take i++e::es.drop i).map entA)++B1.drop ((es.length-i)*4)=Xn at pz hsl2;clear hX1 hB1 gq hI ht4 hd4;generalize hdz:flat ((es.drop i).map entA)=dz at sk cx;refine qq Tryz.func213 rfl (Qi rfl) ?_;rw[Qj];generalize flat (es.map entA)++pad=X0 at e2 e3 sk;repeat' (first|apply qp|apply qi|apply qh|apply ql|apply qj)
 refine zz (o:=o) (ver:=ver) (off:=0) (len:=es.length) (cap:=cap+1) (sz:=4) (i:=i) (j:=es.length) (m:=cap+1) rfl rfl rfl ?_ ?_ ?_ Om Om Om ?_
 .exact⟨_,rfl⟩
 .exact⟨rfl,rfl⟩
 .exact rfl
 repeat' (first|(apply kc (n:=1);(iterate 4 exact rfl))|apply qp|apply qi|apply qh|apply ql|apply qj|(apply zh;(iterate 3 exact rfl))|(apply qe;exact rfl;apply yw;exact cAo)|(apply kc;(iterate 4 exact rfl))|(apply jw;exact rfl;exact rfl;exact zu Om Om)|apply za)
 refine qse rfl rfl rfl ?_;repeat' (first|apply qp|apply qi|apply qh|apply ql|(apply zh;(iterate 3 exact rfl))|(apply qe;exact rfl;apply yw;exact cAo)|(apply jw;exact rfl;exact rfl;exact zu Om Om)|apply za)
 refine zz (o:=o) (ver:=ver) (off:=0) (len:=es.length) (cap:=cap+1) (sz:=4) (i:=0) (j:=es.length+1) (m:=cap+1) rfl rfl rfl ?_ ?_ ?_ Om Om Om ?_
 .exact rfl
 .exact⟨_,rfl⟩
 .exact rfl
 repeat' (first|apply qp|apply qi|apply qh|apply ql|apply qj|(apply jw;exact rfl;exact rfl;exact zu Om Om))
 refine zz (o:=o) (ver:=ver) (off:=0) (len:=es.length+1) (cap:=cap+1) (sz:=4) (i:=i+1) (j:=es.length+1) (m:=cap+1) rfl rfl rfl ?_ ?_ ?_ Om Om Om ?_
 .exact⟨_,rfl⟩
 .exact⟨rfl,rfl⟩
 .exact rfl
 rw[mc];repeat' (first|(apply qy8;first|apply qp|apply zm|apply qi|(apply qe;exact rfl;apply y5;exact cAo)|(apply qe;exact rfl;apply yw;exact cAo)|(apply qe;exact rfl;apply qpc;exact cRa)|(apply qe;exact rfl;apply qsu;exact cRa)|(apply qe;exact rfl;apply cd_n<;>intro h)|(apply qe;exact rfl;apply cd_t;exact cRa)|(apply qe;exact rfl;apply cd_f;exact cRa)|(apply qe;exact rfl;apply cd_d<;>intro h)|(apply qe;exact rfl;apply cd_s<;>intro h)|apply za|apply wd|apply q7)|(apply qs1;first|(apply zn;(iterate 4 exact rfl))|(apply qci;(iterate 4 exact rfl)))|(apply q3h;first|(apply qe7;exact cAo)|(apply qcq;exact cAo)|(apply qce;exact cAo)|(apply qfi;exact cAo)|(apply qoc;exact cRa)|(apply qbk;exact cRa)|(apply qcr;exact cRa)|(apply qmh;exact cRa)|(apply qim<;>intro h)|(apply qdm;exact cRa)|(apply qgm;exact cRa)|(apply qbl;exact cRa)|(apply qcf;exact cRa)|(apply xv<;>intro h)|(apply qgn<;>intro h))|(apply q3g;first|apply qnv|(apply q25;(iterate 4 exact rfl))|(apply q69;exact rfl;exact rfl;exact zu Om Om)|(apply q27;(iterate 4 exact rfl);exact cAs;exact cAs)|(apply qpy;(iterate 5 exact rfl))|(apply qnu;exact rfl;exact rfl;exact cOs)|(apply ql0;(iterate 3 exact rfl))|(apply qkw;(iterate 5 exact rfl))|(apply qj7;(iterate 4 exact rfl))|(apply qj6;(iterate 3 exact rfl))|(apply qyk;(iterate 3 exact rfl);exact cAs)|(apply quq;exact rfl;exact rfl)|(apply qqt;exact rfl;exact rfl)|(apply qqu;(iterate 3 exact rfl);omega)|(apply qnt;(iterate 3 exact rfl))|apply qk8|apply qns|(apply q68;exact rfl;exact rfl;exact zu Om Om)|(apply q26;(iterate 3 exact rfl))|(apply qur;(iterate 3 exact rfl);exact cAs)|(apply qup;(iterate 3 exact rfl);exact cAs)|(apply qlz;exact rfl;exact rfl))|(apply qs0;first|(apply zh;(iterate 3 exact rfl))|(apply j5;(iterate 3 exact rfl))|(apply vb;exact rfl;exact rfl;exact cOs)|(apply jw;exact rfl;exact rfl;exact zu Om Om)|(apply qcj;exact rfl;exact rfl;exact zu Om Om)|(apply wq;exact rfl;exact rfl)|(apply vp;exact rfl;exact rfl)|(apply qeu;exact rfl;exact rfl)|(apply qew;exact rfl;exact rfl)|(apply qcx;(iterate 3 exact rfl))|(apply qh2;(iterate 3 exact rfl))|(apply qfv;exact rfl;exact rfl;(first|exact jo _|exact rfl);first|exact jo _|exact rfl)|(apply qid;exact rfl;exact rfl;(first|exact jo _|exact rfl);first|exact jo _|exact rfl)|(apply qvs;exact rfl;exact rfl;(first|exact jo _|exact rfl);first|exact jo _|exact rfl)|(apply qdw;(iterate 3 exact rfl))|(apply qft;(iterate 3 exact rfl)))|(apply qv9;first|(apply vr;(iterate 3 exact rfl))|(apply qh1;(iterate 5 exact rfl))|(apply ve;(iterate 5 exact rfl)))|(apply qwa;first|(apply qly;exact rfl)|(apply j6;exact rfl)|(apply qfs;exact rfl))|(apply qs2;first|(apply qj5;(iterate 3 exact rfl);exact cAs)|(apply qnq;(iterate 3 exact rfl);exact cAs)|(apply qnr;(iterate 4 exact rfl);exact cAs;exact cAs)|(apply qgc;(iterate 4 exact rfl);(first|assumption|omega|exact Nat.succ_le_succ (Nat.zero_le _)|(simp;omega));exact rfl))|(apply qv8;first|(apply wm;(iterate 3 exact rfl))|(apply kc;(iterate 4 exact rfl)))|(apply qlh;first|(apply zr;(iterate 3 exact rfl))|(apply qb0;(iterate 4 exact rfl)))|(apply qs3;first|(apply qdx;(iterate 11 exact rfl))|(apply jt;(iterate 11 exact rfl)))|(apply qy9;first|apply qh|apply ql|apply qj|(apply zk;exact rfl;exact rfl)|(apply qn;exact rfl;apply qeb;exact cAo)|(apply qn;exact rfl;apply qea;exact cAo)|(apply qn;exact rfl;apply qko;exact cRa)|(apply qn;exact rfl;apply qg8;exact cRa)|(apply qn;exact rfl;apply pk_t;exact cRa)|(apply qn;exact rfl;apply pk_f;exact cRa)|(apply vc;exact rfl;exact rfl)|apply qev|(apply kj;exact rfl;exact rfl)|(apply qch;(iterate 4 exact rfl))|(apply qie;(iterate 3 exact rfl))|(apply qlx;(iterate 3 exact rfl);exact cAs)|(apply yc;(iterate 3 exact rfl))|(apply xj;(iterate 9 exact rfl))|(apply xu;exact rfl;exact rfl)|(apply qg3;(iterate 4 exact rfl);(first|assumption|omega|decide);exact rfl)|(apply qbb;(iterate 4 exact rfl);first|assumption|omega|decide)))
 refine qxi (xs:=[entA e]) (o:=o) (ver:=ver) rfl rfl e2 (by simp[flat,AV.cells]) q0p ?_;repeat' (first|apply qp|apply qh|(apply j6;exact rfl)|(apply qe;exact rfl;apply qpc;exact cRa))
 refine qfg [(0,.os o ver 0 (es.length+1) (cap+1)),(1,Iv i),(2,.sl 4 [entA e] none),(7,Iv 1)] st [] ⟨rfl,rfl,rfl,rfl,trivial⟩ rfl rfl λt=>?_;refine quv (λs=>StA [(0,.os o ver 0 (es.length+1) (cap+1)),(1,Iv i),(2,.sl 4 [entA e] none)] (st.set o (.cells ver 210 X1)) [] s) ?_ ?_
 .refine qj8 rfl rfl ?_
  (apply yl 0;exact rfl;kernel_rfl;kernel_rfl;kernel_rfl;exact rfl;exact y4)
  (apply yl 1;exact rfl;kernel_rfl;kernel_rfl;kernel_rfl;exact rfl;exact y4)
  (apply yl 2;exact rfl;kernel_rfl;kernel_rfl;kernel_rfl;exact rfl;exact y4)
  (apply yl 5;exact rfl;kernel_rfl;kernel_rfl;kernel_rfl;exact rfl;exact y4)
  (apply yl 6;exact rfl;kernel_rfl;kernel_rfl;kernel_rfl;exact rfl;exact y4)
  refine w8 [3,7] Kr rfl ⟨⟨_,rfl,?_⟩,⟨_,rfl,?_⟩,trivial⟩
  ·(apply jw;exact rfl;exact rfl;exact zu Om Om)
   apply qh;refine w8 [4,7] Kr rfl ⟨⟨_,rfl,?_⟩,⟨_,rfl,?_⟩,trivial⟩
   ·(refine zz (o:=o) (ver:=ver) (off:=0) (len:=es.length+1) (cap:=cap+1) (sz:=4) (i:=i+1) (j:=es.length+1) (m:=cap+1) rfl rfl rfl ?_ ?_ ?_ Om Om Om ?_;exact⟨_,rfl⟩;exact⟨rfl,rfl⟩;exact rfl;rw[mc])
    apply qh;refine w8 [7] Kr rfl ⟨⟨_,rfl,?_⟩,trivial⟩
    (refine zz (o:=o) (ver:=ver) (off:=0) (len:=es.length+1) (cap:=cap+1) (sz:=4) (i:=i) (j:=es.length+1) (m:=cap+1) rfl rfl rfl ?_ ?_ ?_ Om Om Om ?_;exact⟨_,rfl⟩;exact⟨rfl,rfl⟩;exact rfl;rw[hi1])
    apply qh;refine w8 [8] Kr rfl ⟨⟨_,rfl,?_⟩,trivial⟩
    (refine qap (o:=o) (ver:=ver) (off:=(i+1)*4) (sz:=4) (bytes:=56) (m:=es.length-i) rfl rfl e2 cx ?_ rfl ⟨⟨_,_,rfl,rfl,rfl,rfl,rfl⟩⟩ ?_ ?_;(show min _ _=_;omega);(rw[e3];omega);rw[sk])
    apply qh;refine qc4 Kr ?_;exact xp ⟨rfl,rfl,rfl,trivial⟩
   ·(refine zz (o:=o) (ver:=ver) (off:=0) (len:=es.length+1) (cap:=cap+1) (sz:=4) (i:=i) (j:=es.length+1) (m:=cap+1) rfl rfl rfl ?_ ?_ ?_ Om Om Om ?_;exact⟨_,rfl⟩;exact⟨rfl,rfl⟩;exact rfl;rw[hi1])
    apply qh;refine w8 [4] Kr rfl ⟨⟨_,rfl,?_⟩,trivial⟩
    (refine zz (o:=o) (ver:=ver) (off:=0) (len:=es.length+1) (cap:=cap+1) (sz:=4) (i:=i+1) (j:=es.length+1) (m:=cap+1) rfl rfl rfl ?_ ?_ ?_ Om Om Om ?_;exact⟨_,rfl⟩;exact⟨rfl,rfl⟩;exact rfl;rw[mc])
    apply qh;refine w8 [8] Kr rfl ⟨⟨_,rfl,?_⟩,trivial⟩
    (refine qap (o:=o) (ver:=ver) (off:=(i+1)*4) (sz:=4) (bytes:=56) (m:=es.length-i) rfl rfl e2 cx ?_ rfl ⟨⟨_,_,rfl,rfl,rfl,rfl,rfl⟩⟩ ?_ ?_;(show min _ _=_;omega);(rw[e3];omega);rw[sk])
    apply qh;refine qc4 Kr ?_;exact xp ⟨rfl,rfl,rfl,trivial⟩
  ·(refine zz (o:=o) (ver:=ver) (off:=0) (len:=es.length+1) (cap:=cap+1) (sz:=4) (i:=i) (j:=es.length+1) (m:=cap+1) rfl rfl rfl ?_ ?_ ?_ Om Om Om ?_;exact⟨_,rfl⟩;exact⟨rfl,rfl⟩;exact rfl;rw[hi1])
   apply qh;refine w8 [3] Kr rfl ⟨⟨_,rfl,?_⟩,trivial⟩
   (apply jw;exact rfl;exact rfl;exact zu Om Om)
   apply qh;refine w8 [4] Kr rfl ⟨⟨_,rfl,?_⟩,trivial⟩
   (refine zz (o:=o) (ver:=ver) (off:=0) (len:=es.length+1) (cap:=cap+1) (sz:=4) (i:=i+1) (j:=es.length+1) (m:=cap+1) rfl rfl rfl ?_ ?_ ?_ Om Om Om ?_;exact⟨_,rfl⟩;exact⟨rfl,rfl⟩;exact rfl;rw[mc])
   apply qh;refine w8 [8] Kr rfl ⟨⟨_,rfl,?_⟩,trivial⟩
   (refine qap (o:=o) (ver:=ver) (off:=(i+1)*4) (sz:=4) (bytes:=56) (m:=es.length-i) rfl rfl e2 cx ?_ rfl ⟨⟨_,_,rfl,rfl,rfl,rfl,rfl⟩⟩ ?_ ?_;(show min _ _=_;omega);(rw[e3];omega);rw[sk])
   apply qh;refine qc4 Kr ?_;exact xp ⟨rfl,rfl,rfl,trivial⟩
 .rintro _ ⟨t,rfl⟩
  have fj:(st.set o (AObj.cells ver 210 X1))[o]?=some (.cells ver 210 X1):=ke e2;repeat' (first|apply qp|apply qi|apply ql)
  refine zz (o:=o) (ver:=ver) (off:=0) (len:=es.length+1) (cap:=cap+1) (sz:=4) (i:=i) (j:=es.length+1) (m:=cap+1) rfl rfl rfl ?_ ?_ ?_ Om Om Om ?_
  .exact⟨_,rfl⟩
  .exact⟨rfl,rfl⟩
  .exact rfl
  rw[hi1];repeat' (first|apply ql)
  refine qap (o:=o) (ver:=ver) (off:=0+i*4) (sz:=4) (bytes:=56) (L:=1) (m:=1) rfl rfl fj (.sl [entA e] none rfl) ?_ rfl ⟨⟨_,_,rfl,rfl,rfl,rfl,rfl⟩⟩ ?_ ?_
  .show min _ _=_
   omega
  .rw[hsl1]
   omega
  rw[pz];repeat' (first|apply qp|apply qi|apply qh|apply ql|apply qj|apply q7)
  refine qo rfl (zt rfl) ?_
  show OwnR 4 210 _ st _ (.os o ver 0 (es.length+1) (cap+1)) ((st.set o _).set o (.cells ver 210 Xn))
  rw[Zv,<-hXn];rw[<-hXn]at hsl2;exact⟨.inr ⟨o,ver,cap,_,by rw[Qk,hnl],ke e2,hsl2,qjb _,by rw[Qk,hnl];omega,e6⟩,Sx,λj hj d7=>Qp λe=>d7 (by rw[e];simp[qr]),λo' e7=>.inr e7⟩
set_option maxHeartbeats 4000000 in
theorem zgn(es:List EntV)(e:EntV)(i:Nat)(hi:i<es.length)(hl:es.length<1000000)(st:List AObj)(o ver cap:Nat)(pad:List AV)(e2:st[o]?=some (.cells ver 210 (flat (es.map entA)++pad)))(e3:(flat (es.map entA)++pad).length=(cap+1)*4)(e5:es.length=cap+1)(e6:cap+1<=maxLen):
  qm E 213 [.os o ver 0 es.length (cap+1),Iv i,.sl 4 [entA e] none] st λr st'=>OwnR 4 210 ((es.take i++e::es.drop i).map entA) st (.os o ver 0 es.length (cap+1)) r st':=by
 have hI:=insB es e i cap pad hi;have e8:=lt_of_getElem? e2;have hfl1:(flat [entA e]).length=4:=rfl;have ht4:=hI.t4;have hd4:=hI.d4;have htake:=hI.take;have hi1:(if cap+1=i then 0 else 0+i*4)=0+i*4:=if_neg Om;have cx:=λS=>hI.src o ver (es.length-i) (cap+1-i) S e3 Om;have hnl:=hI.nl;have r9:=hI.new;have hk9:Iv ((es.length:Int)+1-i)=Iv ((es.length+1-i:Nat):Int):=congrArg (λz:Int=>Iv z) Om;have hkk:i+(es.length+1-i)=es.length+1:=Om
 generalize flat ((es.drop i).map entA)=dz at cx hd4 r9;refine qq Tryz.func213 rfl (Qi rfl) ?_;rw[Qj];generalize flat (es.map entA)++pad=X0 at e2 e3 htake cx;repeat' (first|apply qp|apply qi|apply qh|apply ql|apply qj)
 refine zz (o:=o) (ver:=ver) (off:=0) (len:=es.length) (cap:=cap+1) (sz:=4) (i:=i) (j:=es.length) (m:=cap+1) rfl rfl rfl ?_ ?_ ?_ Om Om Om ?_
 .exact⟨_,rfl⟩
 .exact⟨rfl,rfl⟩
 .exact rfl
 repeat' (first|(apply kc (n:=1);(iterate 4 exact rfl))|apply qp|apply qi|apply qh|apply ql|apply qj|(apply zh;(iterate 3 exact rfl))|(apply qe;exact rfl;apply yw;exact cAo)|(apply kc;(iterate 4 exact rfl))|(apply jw;exact rfl;exact rfl;exact zu Om Om)|apply za)
 refine qse rfl rfl rfl ?_;refine qsi [(0,.os o ver 0 es.length (cap+1)),(1,Iv i),(2,.sl 4 [entA e] none),(7,Iv 1),(8,Iv es.length),(28,Iv ((es.length:Int)+1)),(30,Iv ((cap+1:Nat):Int))] st [] ⟨rfl,rfl,rfl,rfl,rfl,rfl,rfl,trivial⟩ rfl rfl λt=>?_;repeat' (first|apply qp|apply qi|apply qh|apply ql|(apply zh;(iterate 3 exact rfl))|(apply qe;exact rfl;apply y5;exact cAo))
 refine zz (o:=o) (ver:=ver) (off:=0) (len:=es.length) (cap:=cap+1) (sz:=4) (i:=0) (j:=i) (m:=cap+1) rfl rfl rfl ?_ ?_ ?_ Om Om Om ?_
 .exact rfl
 .exact⟨_,rfl⟩
 .exact rfl
 repeat' (first|apply ql|(apply jw;exact rfl;exact rfl;exact zu Om Om)|(apply qcj;exact rfl;exact rfl;exact zu Om Om))
 refine qqr (sz:=4) (bytes:=56) (o:=o) (ver:=ver) (n:=i) (cap:=cap+1) (k:=es.length+1-i) (cs:=X0) rfl hk9 e2 rfl rfl ⟨⟨_,_,rfl,rfl,rfl,rfl,rfl⟩⟩ Om Om Om (by rw[e3];omega) (by simp only[maxLen];omega) Om λcap' zs z1 z2 z3=>?_;rw[hkk,htake];refine qsi [(0,.os o ver 0 es.length (cap+1)),(1,Iv i),(2,.sl 4 [entA e] none),(7,Iv 1),(40,.os st.length 0 0 (es.length+1) cap')] (st++[.cells 0 210 (flat ((es.take i).map entA)++zs)]) [] ⟨rfl,rfl,rfl,rfl,rfl,trivial⟩ rfl rfl λt=>?_;obtain⟨cap',rfl⟩:∃c,cap'=c+1:=⟨cap'-1,Om⟩;have hi3:(if cap'+1=i then 0 else 0+i*4)=0+i*4:=if_neg Om;have hi4:(if cap'+1=i+1 then 0 else 0+(i+1)*4)=(i+1)*4:=by rw[if_neg Om];omega
 have sk:z0 (flat ((es.take i).map entA)++zs) (0+i*4) (flat [entA e])=(flat ((es.take i).map entA)++flat [entA e])++zs.drop 4:=qeh _ _ _ (by rw[ht4];omega)
 have pz:z0 ((flat ((es.take i).map entA)++flat [entA e])++zs.drop 4) ((i+1)*4) dz=flat ((es.take i++e::es.drop i).map entA)++(zs.drop 4).drop dz.length:=by
  rw[qeh _ _ _ (by rw[Qd,ht4,hfl1];omega),r9]
 have dp:((flat ((es.take i).map entA)++flat [entA e])++zs.drop 4).length=(cap'+1)*4:=by
  simp only[Qd,Zd,ht4,hfl1,z1];omega
 have lk:(flat ((es.take i++e::es.drop i).map entA)++(zs.drop 4).drop dz.length).length=(cap'+1)*4:=by
  rw[<-pz,qiy (by rw[dp,hd4];omega),dp]
 have pk:(flat ((es.take i).map entA)++zs).length=(cap'+1)*4:=by
  rw[Qd,ht4,z1];omega
 repeat' (first|apply qp|apply qi|apply qh|apply ql|apply qj)
 refine zz (o:=st.length) (ver:=0) (off:=0) (len:=es.length+1) (cap:=cap'+1) (sz:=4) (i:=i) (j:=es.length+1) (m:=cap'+1) rfl rfl rfl ?_ ?_ ?_ Om Om Om ?_
 .exact⟨_,rfl⟩
 .exact⟨rfl,rfl⟩
 .exact rfl
 rw[hi3];repeat' (first|apply ql)
 refine qap (o:=st.length) (ver:=0) (off:=0+i*4) (sz:=4) (bytes:=56) (L:=1) (m:=1) rfl rfl we (.sl [entA e] none rfl) ?_ rfl ⟨⟨_,_,rfl,rfl,rfl,rfl,rfl⟩⟩ ?_ ?_
 .show min _ _=_
  omega
 .rw[pk]
  omega
 rw[sk];generalize hX1:(flat ((es.take i).map entA)++flat [entA e])++zs.drop 4=X1 at pz dp;have hbo:(st++[AObj.cells 0 210 (flat ((es.take i).map entA)++zs)])[st.length]?=some (.cells 0 210 (flat ((es.take i).map entA)++zs)):=we;have hS1n:((st++[AObj.cells 0 210 (flat ((es.take i).map entA)++zs)]).set st.length (.cells 0 210 X1))[st.length]?=some (.cells 0 210 X1):=ke hbo
 have hS1o:((st++[AObj.cells 0 210 (flat ((es.take i).map entA)++zs)]).set st.length (.cells 0 210 X1))[o]?=some (.cells ver 210 X0):=by
  rw[Qp Om,Qg e8];exact e2
 have hS1j:∀j,j<st.length->((st++[AObj.cells 0 210 (flat ((es.take i).map entA)++zs)]).set st.length (.cells 0 210 X1))[j]?=st[j]?:=λj hj=>by
  rw[Qp Om,Qg hj]
 have hS1l:((st++[AObj.cells 0 210 (flat ((es.take i).map entA)++zs)]).set st.length (.cells 0 210 X1)).length=st.length+1:=Sx
 repeat' (first|apply qp|apply qh)
 refine qfg [(0,.os o ver 0 es.length (cap+1)),(1,Iv i),(7,Iv 1),(9,.os st.length 0 0 (es.length+1) (cap'+1))] ((st++[AObj.cells 0 210 (flat ((es.take i).map entA)++zs)]).set st.length (.cells 0 210 X1)) [] ⟨rfl,rfl,rfl,rfl,trivial⟩ rfl rfl λt=>?_;generalize(st++[AObj.cells 0 210 (flat ((es.take i).map entA)++zs)]).set st.length (.cells 0 210 X1)=S1 at hS1n hS1o hS1j hS1l;refine quv (λs=>StA [(9,.os st.length 0 0 (es.length+1) (cap'+1))] (S1.set st.length (.cells 0 210 (flat ((es.take i++e::es.drop i).map entA)++(zs.drop 4).drop dz.length))) [] s) ?_ ?_
 .refine qj8 rfl rfl ?_
  (apply yl 0;exact rfl;kernel_rfl;kernel_rfl;kernel_rfl;exact rfl;exact y4)
  (apply yl 1;exact rfl;kernel_rfl;kernel_rfl;kernel_rfl;exact rfl;exact y4)
  (apply yl 2;exact rfl;kernel_rfl;kernel_rfl;kernel_rfl;exact rfl;exact y4)
  (apply yl 5;exact rfl;kernel_rfl;kernel_rfl;kernel_rfl;exact rfl;exact y4)
  (apply yl 6;exact rfl;kernel_rfl;kernel_rfl;kernel_rfl;exact rfl;exact y4)
  refine w8 [3,7] Kr rfl ⟨⟨_,rfl,?_⟩,⟨_,rfl,?_⟩,trivial⟩
  ·(apply jw;exact rfl;exact rfl;exact zu Om Om)
   apply qh;refine w8 [4,7] Kr rfl ⟨⟨_,rfl,?_⟩,⟨_,rfl,?_⟩,trivial⟩
   ·(refine zz (o:=st.length) (ver:=0) (off:=0) (len:=es.length+1) (cap:=cap'+1) (sz:=4) (i:=i+1) (j:=es.length+1) (m:=cap'+1) rfl rfl rfl ?_ ?_ ?_ Om Om Om ?_;exact⟨_,rfl⟩;exact⟨rfl,rfl⟩;exact rfl;rw[hi4])
    apply qh;refine w8 [7] Kr rfl ⟨⟨_,rfl,?_⟩,trivial⟩
    (refine zz (o:=o) (ver:=ver) (off:=0) (len:=es.length) (cap:=cap+1) (sz:=4) (i:=i) (j:=es.length) (m:=cap+1) rfl rfl rfl ?_ ?_ ?_ Om Om Om ?_;exact⟨_,rfl⟩;exact⟨rfl,rfl⟩;exact rfl;rw[hi1])
    apply qh;refine w8 [8] Kr rfl ⟨⟨_,rfl,?_⟩,trivial⟩
    (refine qap (o:=st.length) (ver:=0) (off:=(i+1)*4) (sz:=4) (bytes:=56) (m:=es.length-i) rfl rfl hS1n (cx S1 hS1o) ?_ rfl ⟨⟨_,_,rfl,rfl,rfl,rfl,rfl⟩⟩ ?_ ?_;(show min _ _=_;omega);(rw[dp];omega);rw[pz])
    apply qh;refine qc4 Kr ?_;exact xp ⟨rfl,trivial⟩
   ·(refine zz (o:=o) (ver:=ver) (off:=0) (len:=es.length) (cap:=cap+1) (sz:=4) (i:=i) (j:=es.length) (m:=cap+1) rfl rfl rfl ?_ ?_ ?_ Om Om Om ?_;exact⟨_,rfl⟩;exact⟨rfl,rfl⟩;exact rfl;rw[hi1])
    apply qh;refine w8 [4] Kr rfl ⟨⟨_,rfl,?_⟩,trivial⟩
    (refine zz (o:=st.length) (ver:=0) (off:=0) (len:=es.length+1) (cap:=cap'+1) (sz:=4) (i:=i+1) (j:=es.length+1) (m:=cap'+1) rfl rfl rfl ?_ ?_ ?_ Om Om Om ?_;exact⟨_,rfl⟩;exact⟨rfl,rfl⟩;exact rfl;rw[hi4])
    apply qh;refine w8 [8] Kr rfl ⟨⟨_,rfl,?_⟩,trivial⟩
    (refine qap (o:=st.length) (ver:=0) (off:=(i+1)*4) (sz:=4) (bytes:=56) (m:=es.length-i) rfl rfl hS1n (cx S1 hS1o) ?_ rfl ⟨⟨_,_,rfl,rfl,rfl,rfl,rfl⟩⟩ ?_ ?_;(show min _ _=_;omega);(rw[dp];omega);rw[pz])
    apply qh;refine qc4 Kr ?_;exact xp ⟨rfl,trivial⟩
  ·(refine zz (o:=o) (ver:=ver) (off:=0) (len:=es.length) (cap:=cap+1) (sz:=4) (i:=i) (j:=es.length) (m:=cap+1) rfl rfl rfl ?_ ?_ ?_ Om Om Om ?_;exact⟨_,rfl⟩;exact⟨rfl,rfl⟩;exact rfl;rw[hi1])
   apply qh;refine w8 [3] Kr rfl ⟨⟨_,rfl,?_⟩,trivial⟩
   (apply jw;exact rfl;exact rfl;exact zu Om Om)
   apply qh;refine w8 [4] Kr rfl ⟨⟨_,rfl,?_⟩,trivial⟩
   (refine zz (o:=st.length) (ver:=0) (off:=0) (len:=es.length+1) (cap:=cap'+1) (sz:=4) (i:=i+1) (j:=es.length+1) (m:=cap'+1) rfl rfl rfl ?_ ?_ ?_ Om Om Om ?_;exact⟨_,rfl⟩;exact⟨rfl,rfl⟩;exact rfl;rw[hi4])
   apply qh;refine w8 [8] Kr rfl ⟨⟨_,rfl,?_⟩,trivial⟩
   (refine qap (o:=st.length) (ver:=0) (off:=(i+1)*4) (sz:=4) (bytes:=56) (m:=es.length-i) rfl rfl hS1n (cx S1 hS1o) ?_ rfl ⟨⟨_,_,rfl,rfl,rfl,rfl,rfl⟩⟩ ?_ ?_;(show min _ _=_;omega);(rw[dp];omega);rw[pz])
   apply qh;refine qc4 Kr ?_;exact xp ⟨rfl,trivial⟩
 .rintro _ ⟨t,rfl⟩
  repeat' (first|apply qp|apply qi|apply qh|apply ql|apply qj|apply q7)
  refine qo rfl (zt rfl) ?_
  show OwnR 4 210 _ st _ (.os st.length 0 0 (es.length+1) (cap'+1)) (S1.set st.length (.cells 0 210 (flat ((es.take i++e::es.drop i).map entA)++(zs.drop 4).drop dz.length)))
  refine⟨.inr ⟨st.length,0,cap',_,by rw[Qk,hnl],ke hS1n,lk,qjb _,by rw[Qk,hnl];omega,z3⟩,by rw[List.length_set,hS1l];omega,λj hj _=>?_,λo' e7=>?_⟩
  .rw[Qp Om]
   exact hS1j j hj
  .simp only[qr,Qw]at e7
   left;omega
theorem q96(es:List EntV)(e:EntV)(i:Nat)(hi:i<=es.length)(hl:es.length<1000000)(st:List AObj)(c:AV)(hc:OwnS st 4 210 (es.map entA) c):qm E 213 [c,Iv i,.sl 4 [entA e] none] st λr st'=>OwnR 4 210 ((es.take i++e::es.drop i).map entA) st c r st':=by
 have bf:(es.map entA).length=es.length:=Sx
 have hap:i=es.length->(es.take i++e::es.drop i).map entA=es.map entA++[entA e]:=λh=>by subst h;simp
 rcases hc with⟨h0,hnr⟩|⟨o,ver,cap,pad,rfl,e2,e3,e4,e5,e6⟩
 .have hes:es=[]:=by simpa using h0
  subst hes;obtain rfl:i=0:=by simpa using hi
  rw[hap rfl];exact zgl e st c hnr
 .rw[bf]at e5⊢
  by_cases lg:i=es.length
  .rw[hap lg]
   subst lg;exact zgm es e hl st o ver cap pad e2 e3 e5 e6
  .by_cases i9:es.length+1<=cap+1
   .exact zgo es e i Om hl st o ver cap pad e2 e3 i9 e6
   .exact zgn es e i Om hl st o ver cap pad e2 e3 Om e6
end Go.Proofs.YthnbabbhpeebbaaGreatDoor
namespace Go.Pl
open Go Go.Proofs
def qt6(l:zo)(i:Nat)(x:jc):zo:=match l.ents[i]?with
 |some e=>⟨l.ents.set i ⟨x,e.id⟩,l.next,l.many⟩
 |none=>l
def qdg(l:zo)(id:Int)(fs:List Fld):ErrV×zo:=if atF l id<0 then(.num 7,l)else if vi fs=.no then(.no,qt6 l (atF l id).toNat (qeq fs))else(vi fs,l)
def delL(l:zo)(i:Nat):zo:=⟨l.ents.take i++l.ents.drop (i+1),l.next,l.many-1⟩
def delF(l:zo)(id:Int):ErrV×zo:=if atF l id<0 then(.num 7,l)else(.no,delL l (atF l id).toNat)
def insL(l:zo)(k:Nat)(x:jc):zo:=⟨l.ents.take k++⟨x,l.next⟩::l.ents.drop k,l.next+1,l.many+1⟩
def insF(l:zo)(id:Int)(fs:List Fld):Int×ErrV×zo:=
 if atF l id<0∧id≠0 then(0,.num 7,l)else if vi fs=.no then(if 400<=l.many then(0,.num 11,l)else(l.next,.no,insL l (atF l id+1).toNat (qeq fs)))else(0,vi fs,l)
structure LB (n:Nat) (l:zo):Prop where
 small:n<900000
 len:l.ents.length<=n
 nx0:1<=l.next
 nx1:l.next<=n+1
 mn0: -(n:Int)<=l.many
 mn1:l.many<=n
theorem zc9{n:Nat}{l:zo}(h:LB n l)(hs:n+1<900000)(id:Int)(fs:List Fld):LB (n+1) (qdg l id fs).2:=by
 have h1:=h.len;have h2:=h.nx0;have h3:=h.nx1;have h4:=h.mn0;have h5:=h.mn1;unfold qdg;split
 .exact⟨hs,by simp only;omega,h2,by simp only;omega,by simp only;omega,by simp only;omega⟩
 .split
  .unfold qt6
   split
   .exact⟨hs,So,h2,by simp only;omega,by simp only;omega,by simp only;omega⟩
   .exact⟨hs,by simp only;omega,h2,by simp only;omega,by simp only;omega,by simp only;omega⟩
  .exact⟨hs,by simp only;omega,h2,by simp only;omega,by simp only;omega,by simp only;omega⟩
theorem ze5{n:Nat}{l:zo}(h:LB n l)(hs:n+1<900000)(id:Int):LB (n+1) (delF l id).2:=by
 have h1:=h.len;have h2:=h.nx0;have h3:=h.nx1;have h4:=h.mn0;have h5:=h.mn1;unfold delF;split
 .exact⟨hs,by simp only;omega,h2,by simp only;omega,by simp only;omega,by simp only;omega⟩
 .exact⟨hs,by simp[delL];omega,h2,by simp only[delL];omega,by simp only[delL];omega,by simp only[delL];omega⟩
theorem zfi{n:Nat}{l:zo}(h:LB n l)(hs:n+1<900000)(id:Int)(fs:List Fld):LB (n+1) (insF l id fs).2.2:=by
 have h1:=h.len;have h2:=h.nx0;have h3:=h.nx1;have h4:=h.mn0;have h5:=h.mn1;have same:LB (n+1) l:=⟨hs,Om,h2,Om,Om,Om⟩;unfold insF;split
 .exact same
 .split
  .split
   .exact same
   .exact⟨hs,by simp[insL];omega,by simp only[insL];omega,by simp only[insL];omega,by simp only[insL];omega,by simp only[insL];omega⟩
  .exact same
end Go.Pl
namespace Go.Proofs.YthnbabbhpeebbaaGreatDoor
open Go Go.Av Go.RowKit Go.Proofs Go.Pl
def oneF(l:zo)(x:qt):Int×ErrV×zo:=if x.kind=1 then(0,qdg l x.id x.fields)else if x.kind=2 then(0,delF l x.id)else insF l x.id x.fields
theorem qu9{n:Nat}{l:zo}(h:LB n l)(hs:n+1<900000)(x:qt):LB (n+1) (oneF l x).2.2:=by
 unfold oneF;split
 .exact zc9 h hs _ _
 .split
  .exact ze5 h hs _
  .exact zfi h hs _ _
theorem zfp(l:zo)(hl:l.ents.length<1000000):qz E 123 [.a (qb1 l)] 0 (hpF []) ⟨.bx 0 0,q8 [],lstH 1 l++q9 [],2⟩:=by
 refine je [.a (qb1 l)] [] 0 (.bx 0 0) (lstH 1 l) 2 Tryz.func123 rfl rfl rfl rfl λS F ρ=>?_;apply qd [19];repeat' (first|apply Qa|(intro h;try exact cDd)|exact⟨Tryz.call158⟩|(refine Qb _ ⟨q18 [.sl 4 (l.ents.map entA) none] _ (λ_=>rfl) (λst=>q45 l.ents st hl),?_⟩)|exact cSd|apply qb [19]|refine exr ?_|refine qf ?_)
theorem zft(n:Nat)(l:zo)(id:Int)(fs:List Fld)(hB:LB n l)(hK:KeyB fs)(hl:fs.length<1000000):qz E 159 [.bx 0 0,.i id,.a (wn fs)] 2 (hpF (lstH 1 l)) ⟨.a (errA (qdg l id fs).1),q8 (lstH 1 l),lstH 2 (qdg l id fs).2++q9 (lstH 1 l),3⟩:=by
 refine je [.bx 0 0,.i id,.a (wn fs)] (lstH 1 l) 2 (.a (errA (qdg l id fs).1)) (lstH 2 (qdg l id fs).2) 3 Tryz.func159 rfl rfl rfl rfl λS F ρ=>?_;have d8:=hB.len;have hsm:=hB.small;have h1:=quu l id Om;have h2:=λst=>q31 fs st hK hl;unfold qdg;rcases qso l id with h|⟨i,e,h,he,nc,hid1⟩
 .rw[h]at h1⊢
  rw[if_pos (by decide)];apply qd [];repeat' (first|apply Qa|(intro h;try exact cDd)|exact⟨Tryz.call210⟩|(refine qx h1 ?_)|exact cSd|apply qb []|refine exr ?_|refine qf ?_)
 .rw[h]at h1⊢
  rw[if_neg Om];have hm:(l.ents.map entA)[i]?=some (entA e):=by rw[Qq,he];rfl
  have hil:=lt_of_getElem? hm;unfold qeq at h2⊢
  cases hc:vi fs with
  |no=>
   rw[hc,if_pos rfl]at h2;rw[if_pos rfl,if_pos rfl];unfold qt6;rw[Ql,he];apply qd [];repeat' (first|apply Qa|(intro h;try exact cDd)|exact⟨Tryz.call210⟩|(refine qx h1 ?_)|exact⟨Tryz.call211⟩|refine cpe h2 ?_|(refine qrl (i:=i) rfl rfl rfl rfl rfl rfl Om ?_)|(refine q9j (i:=i) (j:=0) (z:=entA e) (z':=entA ⟨⟨3,kp fs,fs⟩,e.id⟩) (u:=qaj ⟨3,kp fs,fs⟩) rfl rfl (λ_=>rfl) rfl rfl rfl hm rfl rfl ?_)|exact cSd|apply qb []|refine exr ?_|refine qf ?_)
   all_goals (simp[List.map_set];done)
  |num m=>
   rw[hc,if_neg Sx]at h2;rw[if_neg Sx];apply qd []
   repeat' (first|apply Qa|(intro h;try exact cDd)|exact⟨Tryz.call210⟩|(refine qx h1 ?_)|exact⟨Tryz.call211⟩|refine cpe h2 ?_|exact cSd|apply qb []|refine exr ?_|refine qf ?_)
  |at' a m=>
   rw[hc,if_neg Sx]at h2;rw[if_neg Sx];apply qd [];repeat' (first|apply Qa|(intro h;try exact cDd)|exact⟨Tryz.call210⟩|(refine qx h1 ?_)|exact⟨Tryz.call211⟩|refine cpe h2 ?_|exact cSd|apply qb []|refine exr ?_|refine qf ?_)
theorem zhu(n:Nat)(l:zo)(id:Int)(hB:LB n l):qz E 160 [.bx 0 0,.i id] 2 (hpF (lstH 1 l)) ⟨.a (errA (delF l id).1),q8 (lstH 1 l),lstH 2 (delF l id).2++q9 (lstH 1 l),3⟩:=by
 refine je [.bx 0 0,.i id] (lstH 1 l) 2 (.a (errA (delF l id).1)) (lstH 2 (delF l id).2) 3 Tryz.func160 rfl rfl rfl rfl λS F ρ=>?_;have d8:=hB.len;have hsm:=hB.small;have h4:=hB.mn0;have h5:=hB.mn1;have h1:=quu l id Om;unfold delF;rcases qso l id with h|⟨i,e,h,he,nc,hid1⟩
 .rw[h]at h1⊢
  rw[if_pos (by decide)];apply qd [];repeat' (first|apply Qa|(intro h;try exact cDd)|exact⟨Tryz.call210⟩|(refine qx h1 ?_)|exact cSd|apply qb []|refine exr ?_|refine qf ?_)
 .rw[h]at h1⊢
  rw[if_neg Om];have hil:=lt_of_getElem? he;have h2:=qq1 (f:=212) (E:=E) (xs:=l.ents.map entA) [Iv i,Iv ((i:Int)+1)] rfl (λst c hc=>zik l.ents i hil Om st c hc);unfold delL;rw[Ql];apply qd [];repeat' (first|apply Qa|(intro h;try exact cDd)|exact⟨Tryz.call210⟩|(refine qx h1 ?_)|exact⟨Tryz.call212⟩|(refine qx h2 ?_)|exact cSd|apply qb []|refine exr ?_|refine qf ?_)
theorem zhy(n:Nat)(l:zo)(id:Int)(fs:List Fld)(hB:LB n l)(hK:KeyB fs)(hl:fs.length<1000000):qz E 161 [.bx 0 0,.i id,.a (wn fs)] 2 (hpF (lstH 1 l)) ⟨.tu [.i (insF l id fs).1,.a (errA (insF l id fs).2.1)],q8 (lstH 1 l),lstH 2 (insF l id fs).2.2++q9 (lstH 1 l),3⟩:=by
 refine je [.bx 0 0,.i id,.a (wn fs)] (lstH 1 l) 2 (.tu [.i (insF l id fs).1,.a (errA (insF l id fs).2.1)]) (lstH 2 (insF l id fs).2.2) 3 Tryz.func161 rfl rfl rfl rfl λS F ρ=>?_;have d8:=hB.len;have hsm:=hB.small;have h4:=hB.mn0;have h5:=hB.mn1;have h6:=hB.nx0;have h7:=hB.nx1;have h1:=quu l id Om;have h2:=λst=>q31 fs st hK hl;unfold insF;rcases qso l id with h|⟨i,e,h,he,nc,hid1⟩
 .rw[h]at h1⊢
  by_cases h0:id=0
  .rw[if_neg (λq=>q.2 h0)]
   rw[show((-1:Int)+1).toNat=0 from rfl];unfold qeq at h2⊢
   cases hc:vi fs with
   |no=>
    rw[hc,if_pos rfl]at h2;rw[if_pos rfl,if_pos rfl];by_cases hm:400<=l.many
    .rw[if_pos hm]
     apply qd [];repeat' (first|apply Qa|(intro h;try exact cDd)|exact⟨Tryz.call210⟩|(refine qx h1 ?_)|exact⟨Tryz.call211⟩|refine cpe h2 ?_|exact cSd|apply qb []|refine exr ?_|refine qf ?_)
    .rw[if_neg hm]
     have h3:=qq1 (f:=213) (E:=E) (xs:=l.ents.map entA) [Iv ((0:Nat):Int),.sl 4 [entA ⟨⟨3,kp fs,fs⟩,l.next⟩] none] rfl (λst c hc=>q96 l.ents ⟨⟨3,kp fs,fs⟩,l.next⟩ (0) Om Om st c hc);unfold insL;apply qd []
     repeat' (first|apply Qa|(intro h;try exact cDd)|exact⟨Tryz.call210⟩|(refine qx h1 ?_)|exact⟨Tryz.call211⟩|refine cpe h2 ?_|exact⟨Tryz.call213⟩|(refine qx h3 ?_)|exact cSd|apply qb []|refine exr ?_|refine qf ?_)
   |num m=>
    rw[hc,if_neg Sx]at h2;rw[if_neg Sx];apply qd []
    repeat' (first|apply Qa|(intro h;try exact cDd)|exact⟨Tryz.call210⟩|(refine qx h1 ?_)|exact⟨Tryz.call211⟩|refine cpe h2 ?_|exact cSd|apply qb []|refine exr ?_|refine qf ?_)
   |at' a m=>
    rw[hc,if_neg Sx]at h2;rw[if_neg Sx];apply qd [];repeat' (first|apply Qa|(intro h;try exact cDd)|exact⟨Tryz.call210⟩|(refine qx h1 ?_)|exact⟨Tryz.call211⟩|refine cpe h2 ?_|exact cSd|apply qb []|refine exr ?_|refine qf ?_)
  .rw[if_pos ⟨by decide,h0⟩]
   apply qd [];repeat' (first|apply Qa|(intro h;try exact cDd)|exact⟨Tryz.call210⟩|(refine qx h1 ?_)|exact cSd|apply qb []|refine exr ?_|refine qf ?_)
 .rw[h]at h1⊢
  have hil:=lt_of_getElem? he;rw[if_neg (λq=>absurd q.1 Om)];rw[show((i:Int)+1).toNat=i+1 from rfl];unfold qeq at h2⊢
  cases hc:vi fs with
  |no=>
   rw[hc,if_pos rfl]at h2;rw[if_pos rfl,if_pos rfl];by_cases hm:400<=l.many
   .rw[if_pos hm]
    apply qd [];repeat' (first|apply Qa|(intro h;try exact cDd)|exact⟨Tryz.call210⟩|(refine qx h1 ?_)|exact⟨Tryz.call211⟩|refine cpe h2 ?_|exact cSd|apply qb []|refine exr ?_|refine qf ?_)
   .rw[if_neg hm]
    have h3:=qq1 (f:=213) (E:=E) (xs:=l.ents.map entA) [Iv ((i+1:Nat):Int),.sl 4 [entA ⟨⟨3,kp fs,fs⟩,l.next⟩] none] rfl (λst c hc=>q96 l.ents ⟨⟨3,kp fs,fs⟩,l.next⟩ (i+1) Om Om st c hc);unfold insL;apply qd []
    repeat' (first|apply Qa|(intro h;try exact cDd)|exact⟨Tryz.call210⟩|(refine qx h1 ?_)|exact⟨Tryz.call211⟩|refine cpe h2 ?_|exact⟨Tryz.call213⟩|(refine qx h3 ?_)|exact cSd|apply qb []|refine exr ?_|refine qf ?_)
  |num m=>
   rw[hc,if_neg Sx]at h2;rw[if_neg Sx];apply qd []
   repeat' (first|apply Qa|(intro h;try exact cDd)|exact⟨Tryz.call210⟩|(refine qx h1 ?_)|exact⟨Tryz.call211⟩|refine cpe h2 ?_|exact cSd|apply qb []|refine exr ?_|refine qf ?_)
  |at' a m=>
   rw[hc,if_neg Sx]at h2;rw[if_neg Sx];apply qd [];repeat' (first|apply Qa|(intro h;try exact cDd)|exact⟨Tryz.call210⟩|(refine qx h1 ?_)|exact⟨Tryz.call211⟩|refine cpe h2 ?_|exact cSd|apply qb []|refine exr ?_|refine qf ?_)
def qc0:Nat->List qt->zo->List Int->ErrV×zo×List Int
 |_,[],l,ids=>(.no,l,ids)
 |k,x::r,l,ids=>if(oneF l x).2.1=.no then qc0 (k+1) r (oneF l x).2.2 (if 0<(oneF l x).1 then ids++[(oneF l x).1]else ids)else(.at' k (oneF l x).2.1.code,l,ids)
def doF(l:zo)(b:List qt):ErrV×zo×List Int:=if eErr b=.no then qc0 0 b l []else(eErr b,l,[])
def doA(r:ErrV×zo×List Int):AV:=match r.1 with
 |.no=>.tu [qb1 r.2.1,qa2 r.2.2,errA .no]
 |e=>.tu [.v (.pointer none),qa2 [],errA e]
theorem zbm(r:ErrV×zo×List Int):Pure (doA r):=by
 unfold doA;split
 .exact qm1 (qip _) (qf1 _) (vu _)
 .exact qm1 (qw _) (qf1 _) (vu _)
theorem q89{l:zo}{x:qt}(h:(oneF l x).2.1≠.no):(oneF l x).2.1.code≠0:=by
 have key:∀fs:List Fld,vi fs≠.no->(vi fs).code≠0:=λfs h h'=>h ((qn2 fs).1 h');unfold oneF at h⊢;split
 .rename_i h1
  rw[if_pos h1]at h;unfold qdg at h⊢;split
  .exact(by decide:(ErrV.num 7).code≠0)
  .rename_i h2
   rw[if_neg h2]at h;split
   .rename_i h3
    rw[if_pos h3]at h;exact absurd rfl h
   .exact key _ (by assumption)
 .rename_i h1
  rw[if_neg h1]at h;split
  .rename_i h2
   rw[if_pos h2]at h;unfold delF at h⊢;split
   .exact(by decide:(ErrV.num 7).code≠0)
   .rename_i h3
    rw[if_neg h3]at h;exact absurd rfl h
  .rename_i h2
   rw[if_neg h2]at h;unfold insF at h⊢;split
   .exact(by decide:(ErrV.num 7).code≠0)
   .rename_i h3
    rw[if_neg h3]at h;split
    .rename_i h4
     rw[if_pos h4]at h;split
     .exact(by decide:(ErrV.num 11).code≠0)
     .rename_i h5
      rw[if_neg h5]at h;exact absurd rfl h
    .exact key _ (by assumption)
theorem zhk(n:Nat)(l:zo)(x:qt)(hB:LB n l)(hK:KeyB x.fields)(hl:x.fields.length<1000000):qz E 124 [.bx 0 0,.a (ye x)] 2 (hpF (lstH 1 l)) ⟨.tu [.i (oneF l x).1,.a (errA (oneF l x).2.1)],q8 (lstH 1 l),lstH 2 (oneF l x).2.2++q9 (lstH 1 l),3⟩:=by
 refine je [.bx 0 0,.a (ye x)] (lstH 1 l) 2 (.tu [.i (oneF l x).1,.a (errA (oneF l x).2.1)]) (lstH 2 (oneF l x).2.2) 3 Tryz.func124 rfl rfl rfl rfl λS F ρ=>?_;unfold oneF;by_cases h1:x.kind=1
 .rw[if_pos h1]
  have hc:=zft n l x.id x.fields hB hK hl;generalize qdg l x.id x.fields=r at hc;apply qd [];repeat' (first|apply Qa|(intro h;try exact cDd)|exact⟨Tryz.call159⟩|(refine qx hc ?_)|exact cSd|apply qb []|refine exr ?_|refine qf ?_)
 .rw[if_neg h1]
  by_cases h2:x.kind=2
  .rw[if_pos h2]
   have hc:=zhu n l x.id hB;generalize delF l x.id=r at hc;apply qd [];repeat' (first|apply Qa|(intro h;try exact cDd)|exact⟨Tryz.call160⟩|(refine qx hc ?_)|exact cSd|apply qb []|refine exr ?_|refine qf ?_)
  .rw[if_neg h2]
   have hc:=zhy n l x.id x.fields hB hK hl;generalize insF l x.id x.fields=r at hc;apply qd [];repeat' (first|apply Qa|(intro h;try exact cDd)|exact⟨Tryz.call161⟩|(refine qx hc ?_)|exact cSd|apply qb []|refine exr ?_|refine qf ?_)
theorem q5c(n:Nat)(l:zo)(b:List qt)(st:List AObj)(hB:LB n l)(hn:n+40<900000)(hE:∀x∈b,EdB x)(hl:b.length<1000000):qm E 97 [qb1 l,jz b] st λr st'=>r=doA (doF l b)∧st'=st:=by
 refine qrn [.a (qb1 l),.a (jz b)] (zbm _) Tryz.func97 rfl rfl (λ_=>rfl) rfl λS0=>?_;have r7:=λst=>qmc b st _ rfl hE Om;unfold doF
 cases he:eErr b with
 |num m=>
  rw[he]at r7;rw[if_neg Sx];apply qd []
  repeat' (first|apply Qa|(intro h;try exact cDd)|exact⟨Tryz.call122⟩|refine cpe r7 ?_|exact cSd|apply qb []|refine exr ?_|refine qf ?_)
 |at' a m=>
  rw[he]at r7;rw[if_neg Sx];apply qd []
  repeat' (first|apply Qa|(intro h;try exact cDd)|exact⟨Tryz.call122⟩|refine cpe r7 ?_|exact cSd|apply qb []|refine exr ?_|refine qf ?_)
 |no=>
  rw[he]at r7;rw[if_pos rfl];obtain⟨db,hb40,hg⟩:=qgf he;have hcp:=zfp l (by have:=hB.len;omega);apply qd [];repeat' (first|apply Qa|(intro h;try exact cDd)|exact⟨Tryz.call122⟩|refine cpe r7 ?_|exact⟨Tryz.call123⟩|(refine qx hcp ?_)|exact cSd|apply qb []|refine exr ?_|refine qf ?_)
  refine xx (X:=Nat×zo×List Int) (λ(k,q,ids)=>⟨[(8,.bx 0 0),(9,.tp 2),(21,.a (jz b)),(22,.i b.length),(23,.i k)],[(0,some (.cells 206 [.tp 1,.i q.next,.i q.many])),(1,some (.own 4 210 (q.ents.map entA))),(2,some (.tip 1 3 (ids.map λx=>Iv x)))],3⟩)
   (λ(k,q,ids)=>k<=b.length∧LB (n+k) q∧ids.length<=k∧qc0 k (b.drop k) q ids=qc0 0 b l []) (λ(k,q,ids)=>b.length-k) (0,l,[]) ⟨Om,hB,Sx,rfl⟩ ?_ ?_
  .skip
   repeat' (first|apply Qa|(intro h;try exact cDd)|exact cSd|apply qb []|refine exr ?_|refine qf ?_)
   all_goals (simp;done)
  .rintro⟨k,q,ids⟩ ⟨hk,hq,hil,a8⟩
   by_cases r8:k<b.length
   .have hx:b[k]?=some b[k]:=Qo r8
    have s7:(b.map ye)[k]?=some (ye b[k]):=by rw[Qq,hx];rfl
    have hxE:=hE b[k] (Zi r8);have hxf:=(qpj (hg b[k] (Zi r8))).1;rw[Qr r8,qc0]at a8;have hidl:(ids.map λx=>Iv x).length=ids.length:=Sx
    generalize b[k]=x at hx s7 hxE hxf a8;have pm:=zhk (n+k) q x hq hxE.keys Om;have hlb:=qu9 hq Om x;have hcd:=λh=>q89 (l:=q) (x:=x) h;generalize oneF q x=o at pm hlb hcd a8;obtain⟨id,e,q'⟩:=o;dsimp only at pm hlb hcd a8
    cases e with
    |no=>
     rw[if_pos rfl]at a8;by_cases h0:0<id
     .rw[if_pos h0]at a8
      apply qd [];repeat' (first|apply Qa|(intro h;try exact cDd)|(refine Qb (k) ⟨Om,_,s7,?_⟩)|exact⟨Tryz.call124⟩|(refine qx pm ?_)|(refine Qb (k+1,q',ids++[id]) ⟨⟨Om,hlb,So,a8⟩,by simp only;omega,?_⟩)|exact cSd|apply qb []|refine exr ?_|refine qf ?_)
      all_goals first|(simp;done)|(simp;omega)
     .rw[if_neg h0]at a8
      apply qd [];repeat' (first|apply Qa|(intro h;try exact cDd)|(refine Qb (k) ⟨Om,_,s7,?_⟩)|exact⟨Tryz.call124⟩|(refine qx pm ?_)|(refine Qb (k+1,q',ids) ⟨⟨Om,hlb,by first|omega|(simp only;omega),a8⟩,by simp only;omega,?_⟩)|exact cSd|apply qb []|refine exr ?_|refine qf ?_)
      all_goals first|(simp;done)|(simp;omega)
    |num m=>
     rw[if_neg Sx]at a8;rw[<-a8];have hft:=λst=>qq4 k (.num m) st (hcd Sx);apply qd []
     repeat' (first|apply Qa|(intro h;try exact cDd)|(refine Qb (k) ⟨Om,_,s7,?_⟩)|exact⟨Tryz.call124⟩|(refine qx pm ?_)|exact⟨Tryz.call125⟩|refine cpe hft ?_|exact cSd|apply qb []|refine exr ?_|refine qf ?_)
    |at' a m=>
     rw[if_neg Sx]at a8;rw[<-a8];have hft:=λst=>qq4 k (.at' a m) st (hcd Sx);apply qd [];repeat' (first|apply Qa|(intro h;try exact cDd)|(refine Qb (k) ⟨Om,_,s7,?_⟩)|exact⟨Tryz.call124⟩|(refine qx pm ?_)|exact⟨Tryz.call125⟩|refine cpe hft ?_|exact cSd|apply qb []|refine exr ?_|refine qf ?_)
   .have r8:k=b.length:=by omega
    subst r8;rw[Zb,qc0]at a8;rw[<-a8];apply qd [];repeat' (first|apply Qa|(intro h;try exact cDd)|exact cSd|apply qb []|refine exr ?_|refine qf ?_)
structure RunV where
 l:zo
 given:List (List Int)
 touched:List Int
def qcc(b:List qt):List Int:=(b.filter λx=>decide (x.kind≠3)).map λx=>x.id
def qhe(r:RunV)(b:List qt):RunV:=⟨(doF r.l b).2.1,r.given++[(doF r.l b).2.2],r.touched++qcc b⟩
def qbx:List (List qt)->RunV->ErrV×RunV
 | [],r=>(.no,r)
 |b::q,r=>if(doF r.l b).1=.no then qbx q (qhe r b)else(.at' r.given.length 10,r)
def yp(base:qa)(bs:List (List qt)):ErrV×RunV:=if qbn base=.no then qbx bs ⟨ofF (itsE base),[],[]⟩else(qbn base,⟨ofF [],[],[]⟩)
@[reducible] def q8k (g : List (List Int)) : AV := .sl 1 (g.map qa2) none
@[reducible] def runA (r : RunV) : AV := .pp [qb1 r.l, q8k r.given, qa2 r.touched]
def q6b(r:ErrV×RunV):AV:=match r.1 with
 |.no=>.tu [runA r.2,errA .no]
 |e=>.tu [.v (.pointer none),errA e]
theorem q2e(g:List (List Int)):Pure (q8k g):=qc9 λx hx=>by
 obtain⟨f,_,rfl⟩:=Qx.1 hx;intro y hy;simp only[AV.cells,Qf,Qm,or_false]at hy;rw[hy];exact qf1 f
theorem q6c(r:ErrV×RunV):Pure (q6b r):=by
 unfold q6b;split
 .exact vz (qve λx hx=>by
   simp only[Qf,Qm,or_false]at hx;rcases hx with rfl|rfl|rfl
   .exact qip _
   .exact q2e _
   .exact qf1 _) (vu _)
 .exact vz (qw _) (vu _)
theorem qgo{n m:Nat}{l:zo}(h:LB n l)(hm:n<=m)(hs:m<900000):LB m l:=by
 have h1:=h.len;have h2:=h.nx0;have h3:=h.nx1;have h4:=h.mn0;have h5:=h.mn1;exact⟨hs,Om,h2,Om,Om,Om⟩
theorem qv5:∀(b:List qt)(k n:Nat)(l:zo)(ids:List Int),LB n l->n+b.length<900000->LB (n+b.length) (qc0 k b l ids).2.1
 | [],k,n,l,ids,h,_=>h
 |x::r,k,n,l,ids,h,hs=>by
  simp only[Zh]at hs⊢;unfold qc0;split
  .have:=qv5 r (k+1) (n+1) (oneF l x).2.2 (if 0<(oneF l x).1 then ids++[(oneF l x).1]else ids) (qu9 h Om x) Om
   rw[show n+(r.length+1)=n+1+r.length by omega];exact this
  .have h1:=h.len;have h2:=h.nx0;have h3:=h.nx1;have h4:=h.mn0;have h5:=h.mn1
   exact⟨Om,by simp only;omega,h2,by simp only;omega,by simp only;omega,by simp only;omega⟩
theorem q72{n:Nat}{l:zo}(h:LB n l)(hs:n+40<900000)(b:List qt):LB (n+40) (doF l b).2.1:=by
 unfold doF;split
 .rename_i he
  obtain⟨h1,h2,_⟩:=qgf he;exact qgo (qv5 b 0 n l [] h Om) Om hs
 .exact qgo h Om hs
theorem q87:∀(its:List jc)(n:Nat)(l:zo),LB n l->n+its.length<900000->LB (n+its.length) (its.foldl qds l)
 | [],n,l,h,_=>h
 |x::r,n,l,h,hs=>by
  simp only[Zh]at hs⊢;rw[Zu,show n+(r.length+1)=n+1+r.length by omega];refine q87 r (n+1) _ ?_ Om;have h1:=h.len;have h2:=h.nx0;have h3:=h.nx1;have h4:=h.mn0;have h5:=h.mn1;unfold qds;split
  .exact⟨Om,So,by simp only;omega,by simp only;omega,by simp only;omega,by simp only;omega⟩
  .exact⟨Om,So,h2,by simp only;omega,by simp only;omega,by simp only;omega⟩
theorem q86(text:qa):LB 300000 (ofF (itsE text)):=by
 have h:=qz1 text;have:=q87 (itsE text) 0 ⟨[],1,0⟩ ⟨Om,Sx,Sx,Sx,Sx,Sx⟩ Om;exact qgo this Om Om
@[reducible] def runH (a : Nat) (r : RunV) : List (Nat × Option SR) := [(0, some (.cells 235 [.a (qb1 r.l), .tp a, .tp (a + 1)])), (a, some (.tip 1 22 (r.given.map qa2))), (a + 1, some (.tip 1 3 (r.touched.map fun x => Iv x)))]
def BB(b:List qt):Prop:=b.length<1000000∧∀x∈b,EdB x
theorem zgi(n:Nat)(r:RunV)(b:List qt)(hB:LB n r.l)(hn:n+40<900000)(hg:r.given.length<1000000)(ht:r.touched.length<100000000)(hb:BB b)(hok:(doF r.l b).1=.no):qz E 203 [.bx 0 0,.a (jz b)] 3 (hpF (runH 1 r)) ⟨.a (.v .nilIface),q8 (runH 1 r),runH 3 (qhe r b)++q9 (runH 1 r),5⟩:=by
 refine je [.bx 0 0,.a (jz b)] (runH 1 r) 3 (.a (.v .nilIface)) (runH 3 (qhe r b)) 5 Tryz.func203 rfl rfl rfl rfl λS F ρ=>?_;have hdo:=λst=>q5c n r.l b st hB hn hb.2 hb.1;unfold qhe;generalize doF r.l b=d at hdo hok;obtain⟨e,l',ids⟩:=d;simp only at hok;subst hok;have hgl:(r.given.map qa2).length=r.given.length:=Sx
 have tg:=hb.1;apply qd [];repeat' (first|apply Qa|(intro h;try exact cDd)|exact⟨Tryz.call97⟩|refine cpe hdo ?_|exact cSd|apply qb []|refine exr ?_|refine qf ?_)
 refine xx (X:=Nat) (λk=>⟨[(0,.bx 0 0),(45,.a (jz b)),(46,.i b.length),(47,.i k)],[(0,some (.cells 235 [.a (qb1 l'),.tp 3,.tp 4])),(3,some (.tip 1 22 ((r.given++[ids]).map qa2))),(4,some (.tip 1 3 ((r.touched++qcc (b.take k)).map λx=>Iv x)))],5⟩)
  (λk=>k<=b.length) (λk=>b.length-k) 0 Om ?_ ?_
 .skip
  repeat' (first|apply Qa|(intro h;try exact cDd)|exact cSd|apply qb []|refine exr ?_|refine qf ?_)
  all_goals (simp[qcc];done)
 .rintro k hk
  by_cases r8:k<b.length
  .have hx:b[k]?=some b[k]:=Qo r8
   have s7:(b.map ye)[k]?=some (ye b[k]):=by rw[Qq,hx];rfl
   have gz:b.take (k+1)=b.take k++[b[k]]:=by rw[List.take_add_one,hx];rfl
   have htl:(qcc (b.take k)).length<=k:=by
    unfold qcc;rw[Qk];exact Zp (Zl _ _) So
   generalize b[k]=x at hx s7 gz;by_cases h3:x.kind=3
   .have e:qcc (b.take (k+1))=qcc (b.take k):=by rw[gz];simp[qcc,h3]
    apply qd [];repeat' (first|apply Qa|(intro h;try exact cDd)|(refine Qb (k) ⟨Om,_,s7,?_⟩)|(refine Qb (k+1) ⟨Om,Om,?_⟩)|exact cSd|apply qb []|refine exr ?_|refine qf ?_)
    all_goals (rw[e];done)
   .have e:qcc (b.take (k+1))=qcc (b.take k)++[x.id]:=by rw[gz];simp[qcc,h3]
    apply qd [];repeat' (first|apply Qa|(intro h;try exact cDd)|(refine Qb (k) ⟨Om,_,s7,?_⟩)|(refine Qb (k+1) ⟨Om,Om,?_⟩)|exact cSd|apply qb []|refine exr ?_|refine qf ?_)
    all_goals first|(rw[e];simp;done)|(simp;omega)
  .have r8:k=b.length:=by omega
   subst r8;rw[List.take_length];apply qd [];repeat' (first|apply Qa|(intro h;try exact cDd)|exact cSd|apply qb []|refine exr ?_|refine qf ?_)
theorem zdc(n:Nat)(r:RunV)(b:List qt)(hB:LB n r.l)(hn:n+40<900000)(hg:r.given.length<1000000)(hb:BB b)(hok:(doF r.l b).1≠.no):qz E 203 [.bx 0 0,.a (jz b)] 3 (hpF (runH 1 r)) ⟨.a (errA (.at' r.given.length 10)),q8 (runH 1 r),runH 3 r++q9 (runH 1 r),5⟩:=by
 refine je [.bx 0 0,.a (jz b)] (runH 1 r) 3 (.a (errA (.at' r.given.length 10))) (runH 3 r) 5 Tryz.func203 rfl rfl rfl rfl λS F ρ=>?_;have hdo:=λst=>q5c n r.l b st hB hn hb.2 hb.1;have hgl:(r.given.map qa2).length=r.given.length:=Sx
 generalize doF r.l b=d at hdo hok;obtain⟨e,l',ids⟩:=d;simp only at hok
 cases e with
 |no=>exact absurd rfl hok
 |num m=>
  apply qd [];repeat' (first|apply Qa|(intro h;try exact cDd)|exact⟨Tryz.call97⟩|refine cpe hdo ?_|exact cSd|apply qb []|refine exr ?_|refine qf ?_)
  all_goals (rw[hgl];rfl)
 |at' a m=>
  apply qd [];repeat' (first|apply Qa|(intro h;try exact cDd)|exact⟨Tryz.call97⟩|refine cpe hdo ?_|exact cSd|apply qb []|refine exr ?_|refine qf ?_)
  all_goals (rw[hgl];rfl)
theorem zgh(base:qa)(bs:List (List qt))(st:List AObj)(hl:base.length<1000000)(hn:bs.length<=14000)(hb:∀b∈bs,BB b∧b.length<=5000):qm E 152 [Sv base,qe3 bs] st λr st'=>r=q6b (yp base bs)∧st'=st:=by
 refine qrn [.s base,.a (qe3 bs)] (q6c _) Tryz.func152 rfl rfl (λ_=>rfl) rfl λS0=>?_;have hof:=λst=>zce base st hl;have hlb:=q86 base;unfold yp;generalize itsE base=its at hof hlb
 cases he:qbn base with
 |num m=>
  rw[he]at hof;rw[if_neg Sx];apply qd [22]
  repeat' (first|apply Qa|(intro h;try exact cDd)|exact⟨Tryz.call202⟩|refine cpe hof ?_|exact cSd|apply qb [22]|refine exr ?_|refine qf ?_)
 |at' a m=>
  rw[he]at hof;rw[if_neg Sx];apply qd [22]
  repeat' (first|apply Qa|(intro h;try exact cDd)|exact⟨Tryz.call202⟩|refine cpe hof ?_|exact cSd|apply qb [22]|refine exr ?_|refine qf ?_)
 |no=>
  rw[he]at hof;rw[if_pos rfl];apply qd [22];repeat' (first|apply Qa|(intro h;try exact cDd)|exact⟨Tryz.call202⟩|refine cpe hof ?_|exact cSd|apply qb [22]|refine exr ?_|refine qf ?_)
  refine xx (X:=Nat×RunV) (λ(k,r)=>⟨[(8,.bx 0 0),(23,.a (qe3 bs)),(24,.i bs.length),(25,.i k)],[(0,some (.cells 235 [.a (qb1 r.l),.tp 1,.tp 2])),(1,some (.tip 1 22 (r.given.map qa2))),(2,some (.tip 1 3 (r.touched.map λx=>Iv x)))],3⟩)
   (λ(k,r)=>k<=bs.length∧LB (300000+40*k) r.l∧r.given.length=k∧r.touched.length<=5000*k∧qbx (bs.drop k) r=qbx bs ⟨ofF its,[],[]⟩) (λ(k,r)=>bs.length-k) (0,⟨ofF its,[],[]⟩) ⟨Om,hlb,rfl,Sx,rfl⟩ ?_ ?_
  .skip
   repeat' (first|apply Qa|(intro h;try exact cDd)|exact cSd|apply qb []|refine exr ?_|refine qf ?_)
   all_goals (simp;done)
  .rintro⟨k,r⟩ ⟨hk,hq,hgl,htl,a8⟩
   by_cases r8:k<bs.length
   .have hx:bs[k]?=some bs[k]:=Qo r8
    have s7:(bs.map jz)[k]?=some (jz bs[k]):=by rw[Qq,hx];rfl
    obtain⟨hbb,hb5⟩:=hb bs[k] (Zi r8);rw[Qr r8,qbx]at a8;generalize bs[k]=b at hx s7 hbb hb5 a8;have hlb2:=q72 hq Om b;by_cases hok:(doF r.l b).1=.no
    .rw[if_pos hok]at a8
     have gz:=zgi (300000+40*k) r b hq Om Om Om hbb hok;have hgl2:(qhe r b).given.length=k+1:=by simp[qhe,hgl]
     have htl2:(qhe r b).touched.length<=5000*(k+1):=by
      have:(qcc b).length<=b.length:=by
       unfold qcc;rw[Qk];exact Zl _ _
      simp only[qhe,Qd];omega
     have hlb3:LB (300000+40*(k+1)) (qhe r b).l:=qgo hlb2 Om Om;generalize qhe r b=r2 at gz a8 hgl2 htl2 hlb3;apply qd [];repeat' (first|apply Qa|(intro h;try exact cDd)|(refine Qb (k) ⟨Om,_,s7,?_⟩)|exact⟨Tryz.call203⟩|(refine qx gz ?_)|(refine Qb (k+1,r2) ⟨⟨Om,hlb3,hgl2,htl2,a8⟩,by simp only;omega,?_⟩)|exact cSd|apply qb []|refine exr ?_|refine qf ?_)
    .rw[if_neg hok]at a8
     rw[<-a8];have gz:=zdc (300000+40*k) r b hq Om Om hbb hok;apply qd [];repeat' (first|apply Qa|(intro h;try exact cDd)|(refine Qb (k) ⟨Om,_,s7,?_⟩)|exact⟨Tryz.call203⟩|(refine qx gz ?_)|exact cSd|apply qb []|refine exr ?_|refine qf ?_)
   .have r8:k=bs.length:=by omega
    subst r8;rw[Zb,qbx]at a8;rw[<-a8];apply qd [];repeat' (first|apply Qa|(intro h;try exact cDd)|exact cSd|apply qb []|refine exr ?_|refine qf ?_)
end Go.Proofs.YthnbabbhpeebbaaGreatDoor
